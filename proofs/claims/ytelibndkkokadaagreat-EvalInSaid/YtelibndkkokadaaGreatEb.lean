import Derived.Test.YtelibndkkokadaaGreatGB0
import Derived.Shelf.Spec.SlicesInsert
import Derived.Laws.ResultCell
import Derived.Laws.Rows
import Derived.Laws.CopyOwn
import Derived.Outline
import Derived.Deep.DeepAppendWide
import Derived.WalkSpells
import Derived.Deep.RegionWith
namespace Go.Proofs.YtelibndkkokadaaGreat.GT
open Go.RowKit Go.Proofs.YtelibndkkokadaaGreatW.PrintWords Go.Proofs.YtelibndkkokadaaGreatW.PrintLast Go.Proofs.YtelibndkkokadaaGreat.HandV Go.Proofs.YtelibndkkokadaaGreatW.PrintMore
open Go.Proofs.YtelibndkkokadaaGreat.GB
attribute [local go_sem] max2_int min2_int max_two min_two max_three min_three max_four min_four   -- for this text's walks alone
set_option linter.unusedVariables false
set_option linter.unusedSimpArgs false
--
-- IMPORT Derived.Shelf.Spec.SlicesInsert
-- IMPORT Derived.Laws.ResultCell
-- IMPORT Derived.Laws.Rows
-- IMPORT Derived.Laws.CopyOwn
-- IMPORT Derived.Outline
-- IMPORT Derived.Deep.DeepAppendWide
-- IMPORT Derived.WalkSpells
-- IMPORT Derived.Deep.RegionWith
theorem setCell_heapT (w : World) (b o : Nat) (v : Value) (cur : List Value) (e : TypeId) (fz : Nat × Nat) (h : w.heap[b]? = some (.cells cur.toArray e fz)) :
    (w.setCell ⟨b, o, none⟩ v).heap[b]? = some (.cells (cur.set o v).toArray e fz) := by
  have hlt : b < w.heap.size := (Array.getElem?_eq_some_iff.1 h).1
  have hv : w.heap[b] = .cells cur.toArray e fz := (Array.getElem?_eq_some_iff.1 h).2
  unfold World.setCell
  rw [Array.getElem?_eq_getElem (by simpa using hlt), Array.getElem_modify]
  simp [hv]
theorem setCells_heapT (b : Nat) (e : TypeId) (fz : Nat × Nat) : ∀ (vs : List Value) (o : Nat) (w : World) (cur : List Value), w.heap[b]? = some (.cells cur.toArray e fz) → o + vs.length ≤ cur.length →
    (w.setCells b o vs).heap[b]? = some (.cells (cur.take o ++ vs ++ cur.drop (o + vs.length)).toArray e fz)
  | [], o, w, cur, h, _ => by simpa [World.setCells] using h
  | v :: r, o, w, cur, h, hl => by
    have hl2 : o + (r.length + 1) ≤ cur.length := by simpa using hl
    have h1 := setCells_heapT b e fz r (o + 1) _ _ (setCell_heapT w b o v cur e fz h) (by rw [List.length_set]; omega)
    rw [World.setCells, h1]
    have e1 : (cur.set o v).take (o + 1) = cur.take o ++ [v] := by
      rw [List.take_succ_eq_append_getElem (by rw [List.length_set]; omega), List.take_set_of_le (Nat.le_refl o)]
      simp
    have e2 : (cur.set o v).drop (o + 1 + r.length) = cur.drop (o + (v :: r).length) := by
      rw [List.drop_set_of_lt (by omega), List.length_cons, Nat.add_assoc, Nat.add_comm 1]
    rw [e1, e2]
    simp
theorem setCells_far (b : Nat) : ∀ (vs : List Value) (o : Nat) (w : World) (k : Nat), k ≠ b → (w.setCells b o vs).heap[k]? = w.heap[k]?
  | [], _, _, _, _ => rfl
  | v :: vs, o, w, k, hk => (setCells_far b vs (o + 1) _ k hk).trans (Below.heap_setCell w ⟨b, o, none⟩ v k hk)
theorem below_cellsT {B : Nat} (b : Nat) (hb : B ≤ b) : ∀ (vs : List Value) (o : Nat) (w : World), Below B w (w.setCells b o vs)
  | [], _, w => Below.refl _ w
  | v :: vs, o, w => ((Below.refl B w).setCell (p := ⟨b, o, none⟩) hb v).trans (below_cellsT b hb vs (o + 1) _)
theorem run_copy_wideT {P : Program} (w : World) (dT sT ty elem : TypeId) (size b o dLen dCap : Nat) (a : Addr) (sLen sCap : Nat) (cs : List Value)
    (hu : P.underlying dT = some (.slice elem)) (hs : (P.info? elem).map (·.size) = some size) (hn : cs.length = Nat.min sLen dLen * size)
    (hsrc : ∀ j v, cs[j]? = some v → w.cell? (a.add j) = some v) (hc : ∀ j, j < cs.length → (w.cell? ⟨b, o + j, none⟩).isSome = true) (hf : ∀ j, j < cs.length → w.frozen? ⟨b, o + j, none⟩ = false) (h1 : ∀ v ∈ cs, v.oneCell' = true) :
    (Builtin.copy_ #[dT, sT] ty #[.slice (some ⟨b, o, none⟩) dLen dCap, .slice (some a) sLen sCap]).run P w = .ok (goInt (Nat.min sLen dLen)) (w.setCells b o cs) := by
  have hl := run_loadCells_list (P := P) w a cs hsrc
  have hst := run_storeCells_cells (P := P) b o cs 0 w (by simpa using hc) (by simpa using hf) h1
  cases hq : P.info? elem with
  | none => simp [hq] at hs
  | some i =>
    have hi : i.size = size := by simpa [hq] using hs
    rw [hn] at hl
    simp [Builtin.copy_, run_underlying hu, Builtin.lenOf, Builtin.firstCells, sizeOf, typeInfo, hq, hi, hl, hst]
/-- The cells of a row that is read, one behind the other, each element's with what it leads to. -/
theorem flat_of {α : Type} {R : α → List Value → Prop} (sz : Nat) {w : World} {ad : Addr} : ∀ (xs : List α) (o : Nat), (∀ (j : Nat) (x : α), xs[j]? = some x → ∃ c : List Value, c.length = sz ∧ R x c ∧ ∀ i u, c[i]? = some u → w.cell? (ad.add ((o + j) * sz + i)) = some u) →
    ∃ cs : List Value, cs.length = xs.length * sz ∧ (∀ i u, cs[i]? = some u → w.cell? (ad.add (o * sz + i)) = some u) ∧ ∀ (j : Nat) (x : α), xs[j]? = some x → R x ((cs.drop (j * sz)).take sz)
  | [], _, _ => ⟨[], by simp, fun i u h => by simp at h, fun j x h => by simp at h⟩
  | x :: xs, o, h => by
    obtain ⟨c, hc, hR, hcell⟩ := h 0 x rfl
    obtain ⟨cs, hl, hcs, hr⟩ := flat_of sz (R := R) (w := w) (ad := ad) xs (o + 1) (fun j y hy => by
      obtain ⟨c', h1, h2, h3⟩ := h (j + 1) y (by simpa using hy)
      exact ⟨c', h1, h2, fun i u hu => by have := h3 i u hu; rwa [show o + (j + 1) = o + 1 + j by omega] at this⟩)
    refine ⟨c ++ cs, by simp [hc, hl, Nat.succ_mul, Nat.add_comm], ?_, ?_⟩
    · intro i u hu
      by_cases hi : i < sz
      · rw [List.getElem?_append_left (by omega)] at hu
        exact hcell i u hu
      · rw [List.getElem?_append_right (by omega)] at hu
        have := hcs (i - c.length) u hu
        rwa [show (o + 1) * sz + (i - c.length) = o * sz + i by rw [Nat.succ_mul]; omega] at this
    · intro j y hy
      cases j with
      | zero =>
        simp at hy
        subst hy
        simp only [Nat.zero_mul, List.drop_zero]
        rwa [List.take_left' hc]
      | succ j =>
        have := hr j y (by simpa using hy)
        rwa [show (c ++ cs).drop ((j + 1) * sz) = cs.drop (j * sz) by rw [List.drop_append, List.drop_of_length_le (by rw [hc, Nat.succ_mul]; omega), List.nil_append, hc]; congr 1; rw [Nat.succ_mul]; omega]
/-- What a row that is read says of its cells in memory. -/
theorem F_flat {α : Type} {d : Kd α} {w : World} {ok : Nat → Prop} {ad : Addr} {xs : List α} (h : Kd.F d w ok (some ad) xs.length xs) :
    ∃ cs : List Value, cs.length = xs.length * d.sz ∧ (∀ i u, cs[i]? = some u → w.cell? (ad.add i) = some u) ∧ (∀ u ∈ cs, u.oneCell' = true) ∧ ∀ (j : Nat) (x : α), xs[j]? = some x → Kd.FK d w ok x ((cs.drop (j * d.sz)).take d.sz) := by
  have hr := Kd.F_rows h
  obtain ⟨_, _, hr⟩ := hr
  by_cases hp : 0 < xs.length
  · obtain ⟨ad', he, hr⟩ := hr hp
    injection he with he
    subst he
    obtain ⟨cs, h1, h2, h3⟩ := flat_of (R := fun x c => Kd.FK d w ok x c) d.sz (w := w) (ad := ad) xs 0 (fun j x hx => by
      obtain ⟨c, g1, g2, g3⟩ := hr j x hx
      exact ⟨c, g1, g2, fun i u hu => by rw [Nat.zero_add]; exact g3 i u hu⟩)
    refine ⟨cs, h1, fun i u hu => by have := h2 i u hu; rwa [Nat.zero_mul, Nat.zero_add] at this, ?_, h3⟩
    intro u hu
    obtain ⟨i, hi⟩ := List.getElem?_of_mem hu
    have hil := (List.getElem?_eq_some_iff.1 hi).1
    have hs0 : 0 < d.sz := by
      rcases Nat.eq_zero_or_pos d.sz with h0 | h0
      · rw [h1, h0, Nat.mul_zero] at hil; omega
      · exact h0
    have hj : i / d.sz < xs.length := by rw [Nat.div_lt_iff_lt_mul hs0, ← h1]; exact hil
    have hk := d.K_one (Kd.FK_now (h3 (i / d.sz) _ (List.getElem?_eq_getElem hj)))
    refine hk u ?_
    rw [List.mem_iff_getElem?]
    refine ⟨i % d.sz, ?_⟩
    rw [List.getElem?_take_of_lt (Nat.mod_lt _ hs0), List.getElem?_drop]
    have := Nat.div_add_mod i d.sz
    rw [Nat.mul_comm] at this
    rw [this]
    exact hi
  · have h0 : xs = [] := List.eq_nil_of_length_eq_zero (by omega)
    subst h0
    exact ⟨[], by simp, fun i u h => by simp at h, fun u h => by simp at h, fun j x h => by simp at h⟩
theorem C_flat {α : Type} {d : Kd α} (hd : Kd.Heap d) {w : World} {ad : Addr} {xs : List α} (h : d.C w (some ad) xs.length xs) :
    ∃ cs : List Value, cs.length = xs.length * d.sz ∧ (∀ i u, cs[i]? = some u → w.cell? (ad.add i) = some u) ∧ (∀ u ∈ cs, u.oneCell' = true) ∧ ∀ (j : Nat) (x : α), xs[j]? = some x → Kd.FK d w (fun q => q < w.heap.size) x ((cs.drop (j * d.sz)).take d.sz) := F_flat (Kd.C_F hd h)
theorem splice_get {α : Type} (L seg : List α) (o i : Nat) (h : o + seg.length ≤ L.length) : (L.take o ++ seg ++ L.drop (o + seg.length))[i]? = if i < o then L[i]? else if i < o + seg.length then seg[i - o]? else L[i]? := by
  have ht : (L.take o).length = o := by rw [List.length_take]; omega
  by_cases h1 : i < o
  · rw [if_pos h1, List.getElem?_append_left (by rw [List.length_append, ht]; omega), List.getElem?_append_left (by rw [ht]; exact h1), List.getElem?_take_of_lt h1]
  · rw [if_neg h1]
    by_cases h2 : i < o + seg.length
    · rw [if_pos h2, List.getElem?_append_left (by rw [List.length_append, ht]; omega), List.getElem?_append_right (by rw [ht]; omega), ht]
    · rw [if_neg h2, List.getElem?_append_right (by rw [List.length_append, ht]; omega), List.getElem?_drop, List.length_append, ht]
      congr 1
      omega
theorem splice_take {α : Type} (L seg : List α) (o m : Nat) (h : o + seg.length ≤ m) (hm : m ≤ L.length) : (L.take o ++ seg ++ L.drop (o + seg.length)).take m = (L.take m).take o ++ seg ++ (L.take m).drop (o + seg.length) := by
  have hlm : (L.take m).length = m := by rw [List.length_take]; omega
  apply List.ext_getElem?
  intro i
  rw [splice_get _ _ _ _ (by omega)]
  by_cases hi : i < m
  · rw [List.getElem?_take_of_lt hi, splice_get _ _ _ _ (by omega), List.getElem?_take_of_lt hi]
  · rw [List.getElem?_eq_none (by rw [List.length_take]; omega), if_neg (by omega), if_neg (by omega), List.getElem?_eq_none (by omega)]
theorem splice_chunk {α : Type} (L seg c : List α) (sz k j off : Nat) (h : k * sz + off + seg.length ≤ L.length) (hoff : off + seg.length ≤ sz) (hc : c = (L.drop (k * sz)).take sz) (hk : (k + 1) * sz ≤ L.length) :
    ((L.take (k * sz + off) ++ seg ++ L.drop (k * sz + off + seg.length)).drop (j * sz)).take sz = if j = k then c.take off ++ seg ++ c.drop (off + seg.length) else (L.drop (j * sz)).take sz := by
  rw [Nat.succ_mul] at hk
  have hcl : c.length = sz := by rw [hc, List.length_take, List.length_drop]; omega
  have hcg : ∀ i, i < sz → c[i]? = L[k * sz + i]? := fun i hi => by rw [hc, List.getElem?_take_of_lt hi, List.getElem?_drop]
  apply List.ext_getElem?
  intro i
  by_cases hi : i < sz
  · rw [List.getElem?_take_of_lt hi, List.getElem?_drop, splice_get _ _ _ _ h]
    by_cases hjk : j = k
    · subst hjk
      rw [if_pos rfl, splice_get _ _ _ _ (by omega)]
      by_cases h1 : i < off
      · rw [if_pos (by omega), if_pos h1, hcg i hi]
      · rw [if_neg (by omega), if_neg h1]
        by_cases h2 : i < off + seg.length
        · rw [if_pos (by omega), if_pos h2]
          congr 1
          omega
        · rw [if_neg (by omega), if_neg h2, hcg i hi]
    · rw [if_neg hjk, List.getElem?_take_of_lt hi, List.getElem?_drop]
      rcases Nat.lt_or_gt_of_ne hjk with hlt | hgt
      · have : (j + 1) * sz ≤ k * sz := Nat.mul_le_mul_right _ hlt
        rw [Nat.succ_mul] at this
        rw [if_pos (by omega)]
      · have : (k + 1) * sz ≤ j * sz := Nat.mul_le_mul_right _ hgt
        rw [Nat.succ_mul] at this
        rw [if_neg (by omega), if_neg (by omega)]
  · rw [List.getElem?_eq_none (by rw [List.length_take]; omega)]
    by_cases hjk : j = k
    · rw [if_pos hjk, splice_get _ _ _ _ (by omega), if_neg (by omega), if_neg (by omega), List.getElem?_eq_none (by omega)]
    · rw [if_neg hjk, List.getElem?_eq_none (by rw [List.length_take]; omega)]
/-- A row of the call's own at the head of block g; its first k elements lead to blocks of ok1, the others to blocks of ok2. -/
def Tw {α : Type} (d : Kd α) (e : Nat) (w : World) (base g n cap : Nat) (xs : List α) (k : Nat) (ok1 ok2 : Nat → Prop) : Prop :=
  xs.length = n ∧ ∃ inner : List Value, w.ownsRow base e d.sz (.slice (some ⟨g, 0, none⟩) n cap) n inner ∧ ∀ (j : Nat) (x : α), xs[j]? = some x → Kd.FK d w (fun q => (if j < k then ok1 q else ok2 q) ∧ q ≠ g) x ((inner.drop (j * d.sz)).take d.sz)
theorem Tw.block {α : Type} {d : Kd α} {e : Nat} {w : World} {base g n cap : Nat} {xs : List α} {k : Nat} {ok1 ok2 : Nat → Prop} (h : Tw d e w base g n cap xs k ok1 ok2) : base ≤ g ∧ g < w.heap.size ∧ n ≤ cap := by
  obtain ⟨_, inner, ⟨hl, ho⟩, _⟩ := h
  rcases ho with ⟨he, _⟩ | ⟨g', cap', cur, he, hb, hh, hn, _⟩
  · cases he
  · injection he with h1 h2 h3
    injection h1 with h1
    injection h1 with h1
    subst h1 h3
    exact ⟨hb, (Array.getElem?_eq_some_iff.1 hh).1, hn⟩
theorem Tw.step {α : Type} {d : Kd α} {e : Nat} {w w1 : World} {base g n cap : Nat} {xs : List α} {k : Nat} {ok1 ok2 : Nat → Prop} (h : Tw d e w base g n cap xs k ok1 ok2) (hg : w1.heap[g]? = w.heap[g]?) (hm1 : ∀ q, ok1 q → q < w.heap.size → q ≠ g → w1.heap[q]? = w.heap[q]?) (hm2 : ∀ q, ok2 q → q < w.heap.size → q ≠ g → w1.heap[q]? = w.heap[q]?) : Tw d e w1 base g n cap xs k ok1 ok2 := by
  obtain ⟨hx, inner, ho, hf⟩ := h
  refine ⟨hx, inner, own_move ho (fun q hq => by simp [Value.ownBlock] at hq; subst hq; exact hg), fun j x hj => Kd.FK_step (hf j x hj) (fun q hq hlt => ?_)⟩
  by_cases hjk : j < k
  · rw [if_pos hjk] at hq; exact hm1 q hq.1 hlt hq.2
  · rw [if_neg hjk] at hq; exact hm2 q hq.1 hlt hq.2
theorem Tw.below {α : Type} {d : Kd α} {e : Nat} {w w1 : World} {base g n cap : Nat} {xs : List α} {k : Nat} {ok1 ok2 : Nat → Prop} (h : Tw d e w base g n cap xs k ok1 ok2) (hb : Below w.heap.size w w1) : Tw d e w1 base g n cap xs k ok1 ok2 :=
  h.step (hb.block g h.block.2.1) (fun q _ hlt _ => hb.block q hlt) (fun q _ hlt _ => hb.block q hlt)
theorem Tw.elem {α : Type} {d : Kd α} {e : Nat} {w : World} {base g n cap : Nat} {xs : List α} {k : Nat} {ok1 ok2 : Nat → Prop} (h : Tw d e w base g n cap xs k ok1 ok2) (x : α) (hx : xs[k]? = some x) :
    ∃ c : List Value, Kd.FK d w (fun q => ok2 q ∧ q ≠ g) x c ∧ (∀ i u, c[i]? = some u → w.cell? ⟨g, k * d.sz + i, none⟩ = some u) ∧ (∀ i, w.frozen? ⟨g, i, none⟩ = false) := by
  obtain ⟨hxl, inner, ⟨hl, ho⟩, hf⟩ := h
  have hF := hf k x hx
  simp only [Nat.lt_irrefl, if_false] at hF
  refine ⟨_, hF, ?_, ?_⟩
  · intro i u hu
    rcases ho with ⟨he, _⟩ | ⟨g', cap', cur, he, hb, hh, hn, hcm, hcs, htk⟩
    · cases he
    · injection he with h1 h2 h3
      injection h1 with h1
      injection h1 with h1
      subst h1 h3
      have hi : i < d.sz := by
        have := (List.getElem?_eq_some_iff.1 hu).1
        rw [List.length_take] at this
        omega
      rw [List.getElem?_take_of_lt hi, List.getElem?_drop, ← htk] at hu
      have hu2 : cur.toList[k * d.sz + i]? = some u := by
        rw [List.getElem?_take] at hu
        split at hu
        · exact hu
        · cases hu
      rw [blk_cell hh]
      simpa using hu2
  · intro i
    rcases ho with ⟨he, _⟩ | ⟨g', cap', cur, he, hb, hh, hn, hcm, hcs, htk⟩
    · cases he
    · injection he with h1 h2 h3
      injection h1 with h1
      injection h1 with h1
      subst h1
      exact blk_frozen hh i
/-- The element's new cells. -/
theorem Tw.store {α : Type} {d : Kd α} {e : Nat} {w : World} {base g n cap : Nat} {xs : List α} {k : Nat} {ok1 ok2 : Nat → Prop} (h : Tw d e w base g n cap xs k ok1 ok2) (x : α) (hx : xs[k]? = some x) (off : Nat) (seg c : List Value) (hc : ∀ i u, c[i]? = some u → w.cell? ⟨g, k * d.sz + i, none⟩ = some u) (hcl : c.length = d.sz) (hoff : off + seg.length ≤ d.sz)
    (hN : Kd.FK d (w.setCells g (k * d.sz + off) seg) (fun q => ok1 q ∧ q ≠ g) x (c.take off ++ seg ++ c.drop (off + seg.length))) : Tw d e (w.setCells g (k * d.sz + off) seg) base g n cap xs (k + 1) ok1 ok2 := by
  obtain ⟨hxl, inner, ⟨hl, ho⟩, hf⟩ := h
  have hkn : k < n := by rw [← hxl]; exact (List.getElem?_eq_some_iff.1 hx).1
  have hks : (k + 1) * d.sz ≤ n * d.sz := Nat.mul_le_mul_right _ hkn
  rw [Nat.succ_mul] at hks
  rcases ho with ⟨he, _⟩ | ⟨g', cap', cur, he, hb, hh, hn, hcm, hcs, htk⟩
  · cases he
  injection he with h1 h2 h3
  injection h1 with h1
  injection h1 with h1
  subst h1 h3
  have hcurl : cur.toList.length = cap * d.sz := by simpa using hcs
  have hncap : n * d.sz ≤ cap * d.sz := Nat.mul_le_mul_right _ hn
  have hh2 : w.heap[g]? = some (.cells cur.toList.toArray e (0, 0)) := by simpa using hh
  have hset := setCells_heapT g e (0, 0) seg (k * d.sz + off) w cur.toList hh2 (by rw [hcurl]; omega)
  have hcc : c = (inner.drop (k * d.sz)).take d.sz := by
    apply List.ext_getElem?
    intro i
    by_cases hi : i < d.sz
    · rw [List.getElem?_take_of_lt hi, List.getElem?_drop, List.getElem?_eq_getElem (by omega)]
      have h2 := hc i _ (List.getElem?_eq_getElem (by omega))
      rw [blk_cell hh] at h2
      rw [← h2, ← htk, List.getElem?_take_of_lt (by omega)]
      simp
    · rw [List.getElem?_eq_none (by omega), List.getElem?_eq_none (by rw [List.length_take]; omega)]
  have hil : inner.length = n * d.sz := hl
  refine ⟨hxl, inner.take (k * d.sz + off) ++ seg ++ inner.drop (k * d.sz + off + seg.length), ⟨by simp only [List.length_append, List.length_take, List.length_drop]; omega, .inr ⟨g, cap, _, rfl, hb, hset, hn, hcm, ?_, ?_⟩⟩, ?_⟩
  · simp only [List.size_toArray, List.length_append, List.length_take, List.length_drop]
    omega
  · rw [List.toList_toArray, ← htk]
    exact splice_take _ _ _ _ (by omega) (by rw [hcurl]; exact hncap)
  · intro j y hy
    rw [splice_chunk inner seg c d.sz k j off (by omega) hoff hcc (by rw [Nat.succ_mul]; omega)]
    by_cases hjk : j = k
    · subst hjk
      obtain rfl : y = x := Option.some.inj (hy.symm.trans hx)
      rw [if_pos rfl]
      exact Kd.FK_mono hN (fun q hq => ⟨by simpa using hq.1, hq.2⟩)
    · rw [if_neg hjk]
      refine Kd.FK_mono (Kd.FK_step (hf j y hy) (fun q hq _ => setCells_far g seg _ w q hq.2)) (fun q hq => ⟨?_, hq.2⟩)
      by_cases h5 : j < k
      · rw [if_pos h5] at hq; rw [if_pos (by omega)]; exact hq.1
      · rw [if_neg h5] at hq; rw [if_neg (by omega)]; exact hq.1
theorem Tw.to_N {α : Type} {d : Kd α} {e : Nat} {w : World} {base g n cap : Nat} {xs : List α} {ok1 ok2 : Nat → Prop} (h : Tw d e w base g n cap xs n ok1 ok2) : Kd.N d e w base (fun q => ok1 q ∨ q = g) (.slice (some ⟨g, 0, none⟩) n cap) xs := by
  obtain ⟨hx, inner, ho, hf⟩ := h
  refine ⟨fun q hq => Or.inr (by simpa [Value.ownBlock] using hq.symm), Kd.chunks d.sz n inner, by rw [Kd.chunks_length, hx], ⟨fun q hq => hq.symm, inner, by rw [Kd.chunks_length]; exact ho, ?_⟩, ?_⟩
  · refine ⟨by rw [Kd.chunks_length]; exact ho.1, fun j c hj => ?_⟩
    rw [Kd.chunks_get hj]
    have hjn : j < n := by have := (List.getElem?_eq_some_iff.1 hj).1; rwa [Kd.chunks_length] at this
    have hF := Kd.FK_now (hf j _ (List.getElem?_eq_getElem (by omega)))
    exact ⟨rfl, d.K_len hF, d.K_one hF⟩
  · intro j x c hj hc
    rw [Kd.chunks_get hc]
    have hjn : j < n := by rw [← hx]; exact (List.getElem?_eq_some_iff.1 hj).1
    refine Kd.FK_mono (hf j x hj) (fun q hq => ?_)
    rw [if_pos hjn] at hq
    exact ⟨Or.inl hq.1, fun he => hq.2 (by simpa [Value.ownBlock] using he)⟩
/-- A new row, not filled: behind a copy of a row that is read. -/
theorem Tw.copied {α : Type} {d : Kd α} (hd : Kd.Heap d) {e : Nat} {w W : World} {base g n cap : Nat} {ad : Addr} {xs : List α} (h : d.C w (some ad) xs.length xs) (hn : xs.length = n) (hb : base ≤ g) (cur : List Value) (hcur : cur.length = cap * d.sz) (hg : W.heap[g]? = some (.cells cur.toArray e (0, 0))) (hnc : n ≤ cap) (hcm : cap ≤ maxLen)
    (hB : Below w.heap.size w W) (hgw : w.heap.size ≤ g) (cs : List Value) (hcs : cs.length = xs.length * d.sz) (hF : ∀ (j : Nat) (x : α), xs[j]? = some x → Kd.FK d w (fun q => q < w.heap.size) x ((cs.drop (j * d.sz)).take d.sz)) (ok1 : Nat → Prop) : Tw d e (W.setCells g 0 cs) base g n cap xs 0 ok1 (fun q => q < w.heap.size) := by
  have hnc2 : n * d.sz ≤ cap * d.sz := Nat.mul_le_mul_right _ hnc
  have hset := setCells_heapT g e (0, 0) cs 0 W cur hg (by rw [hcs, hn, hcur]; omega)
  refine ⟨hn, cs, ⟨by rw [hcs, hn], .inr ⟨g, cap, _, rfl, hb, hset, hnc, hcm, ?_, ?_⟩⟩, ?_⟩
  · simp only [List.size_toArray, List.length_append, List.length_take, List.length_drop]
    rw [hcs, hn] at *
    omega
  · rw [List.toList_toArray, List.take_zero, List.nil_append]
    exact List.take_left' (by rw [hcs, hn])
  · intro j x hj
    refine Kd.FK_mono (Kd.FK_step (Kd.FK_step (hF j x hj) (fun q hq hlt => hB.block q hlt)) (fun q hq _ => setCells_far g cs 0 W q (by omega))) (fun q hq => ⟨?_, by omega⟩)
    rw [if_neg (by omega)]
    exact hq
mutual
/-- No row in a value is too long. -/
def smV : S39 → Bool
  | ⟨_, _, _, _, _, l⟩ => decide (l.length ≤ 1000000) && smL l
def smL : List S39 → Bool
  | [] => true
  | x :: xs => smV x && smL xs
end
theorem smL_mem : ∀ (l : List S39), smL l = true → ∀ x ∈ l, smV x = true
  | [], _, x, hx => by cases hx
  | y :: ys, h, x, hx => by
    simp only [smL, Bool.and_eq_true] at h
    rcases List.mem_cons.1 hx with rfl | hx
    · exact h.1
    · exact smL_mem ys h.2 x hx
theorem results_one {P : Program} {fn : Func} {p : Tmp} {ty : TypeId} (h : fn.results = #[.cell p ty]) (tmps : Array Value) (w : World) (g : Nat) (t : TypeId) (cs : Array Value) (fr : Nat × Nat) (d : TypeDesc)
    (hp : tmps.getD p undef = .pointer (some ⟨g, 0, none⟩)) (hg : w.heap[g]? = some (.cells cs t fr))
    (hu : P.underlying ty = some d) (hd : (match d with | .struct _ | .array _ _ => true | _ => false) = true) (hi : (P.info? ty).map (·.size) = some cs.size) :
    (results fn tmps).run P w = .ok (.agg cs) w := by
  have h1 : (results fn tmps).run P w = ((asAddr (tmps.getD p undef)).run P w).andThen fun a w₁ => (loadVar ty a).run P w₁ := by
    simp only [results, h]
    simp [Sem.run_bind, Result.andThen]
  rw [h1, hp]
  simp [asAddr, run_loadVar_row w g t ty cs fr d hg hu hd hi, Result.andThen]
theorem lt_of_heapT {w : World} {k : Nat} {o : Obj} (h : w.heap[k]? = some o) : k < w.heap.size := (Array.getElem?_eq_some_iff.1 h).1
theorem hcellT {w : World} {g t : Nat} {cs : Array Value} {fr : Nat × Nat} (h : w.heap[g]? = some (.cells cs t fr)) (i : Nat) (v : Value) (hv : cs[i]? = some v) : w.cell? ⟨g, i, none⟩ = some v := by
  unfold World.cell?
  rw [h]
  simpa using hv
/-- A value's cells, but for where its row lies. -/
abbrev valT (x : S39) (v6 : Value) : List Value := [.int .i64 x.f0, .bool x.f1, .int .i64 x.f2, .string x.f3, .string x.f4.f0, .string x.f4.f1, v6]
/-- ents.twinValue gives the value again, in memory of its own. -/
def TwinV (x : S39) : Prop := ∀ (A : Option Addr) (c : Nat) (w : World), x.f5.length ≤ c → k39.C w A x.f5.length x.f5 →
  Calls Tryz.prog 84 #[.agg #[.int .i64 x.f0, .bool x.f1, .int .i64 x.f2, .string x.f3, .string x.f4.f0, .string x.f4.f1, .slice A x.f5.length c]] w fun e w' => ∃ v6 : Value, e = .returned (.agg #[.int .i64 x.f0, .bool x.f1, .int .i64 x.f2, .string x.f3, .string x.f4.f0, .string x.f4.f1, v6]) ∧ Kd.V k39 39 w' w.heap.size (fun k_ => w.heap.size ≤ k_) v6 x.f5 ∧ Below w.heap.size w w'
theorem heap_at (W : World) (o : Obj) (k : Nat) (h : W.heap.size = k) : (W.alloc o).heap[k]? = some o := h ▸ blk_new W o
set_option maxRecDepth 100000 in
set_option maxHeartbeats 8000000 in
theorem twinV_nil (x : S39) (hn : x.f5.length = 0) : TwinV x := by
  intro A c w hl hC
  have hx : x.f5 = [] := List.eq_nil_of_length_eq_zero hn
  have hk0 : ((x.f5.length : Int) == 0) = true := by simp [hn]
  have hk0b : (x.f5.length == 0) = true := by simp [hn]
  have HX := Aside0.mk hx
  have HL := Aside0.mk hl
  clear hC hx hl hn
  go_enter Tryz.func84, Tryz.ntmps84
  go_wp2
  (try simp only [Exit.inBlock, Exit.then])
  refine bodyPost_ret (results_one rfl _ _ (w.heap.size + 1) 39 _ (0, 0) _ rfl (heap_at _ _ _ (by simp)) Tryz.underlying39 rfl (by kernel_rfl)) rfl ?_
  refine ⟨_, rfl, ?_, by repeat (first | exact Below.refl _ _ | apply below_alloc)⟩
  refine Kd.V_mk HL.out ?_
  rw [HX.out]
  exact fun W' _ => ⟨rfl, by simp, fun h => absurd h (Nat.lt_irrefl 0)⟩
/-- Behind the copy. -/
structure TwS (w wr : World) (x : S39) (A : Option Addr) (c g cap k : Nat) : Prop where
  bel : Below w.heap.size w wr
  box : wr.heap[w.heap.size]? = some (.cells #[.int .i64 x.f0, .bool x.f1, .int .i64 x.f2, .string x.f3, .string x.f4.f0, .string x.f4.f1, .slice A x.f5.length c] 39 (0, 0))
  res : wr.heap[w.heap.size + 1]? = some (.cells #[.int .i64 0, .bool false, .int .i64 0, .string ⟨#[]⟩, .string ⟨#[]⟩, .string ⟨#[]⟩, .slice none 0 0] 39 (0, 0))
  row : Tw k39 39 wr (w.heap.size + 2) g x.f5.length cap x.f5 k (fun q => w.heap.size + 2 ≤ q) (fun q => q < w.heap.size)
theorem zero_FK (W : World) : Kd.FK k39 W (fun _ => False) z39 (Value.agg #[.int .i64 0, .bool false, .int .i64 0, .string ⟨#[]⟩, .string ⟨#[]⟩, .string ⟨#[]⟩, .slice none 0 0] : Value).cells.toList :=
  k39_mkF W _ z39 (A6 := none) (c6 := 0) (Nat.le_refl _) (fun W' _ => ⟨rfl, by simp [z39], fun h => absurd h (Nat.lt_irrefl 0)⟩)
/-- The row behind the copy. -/
theorem tw_start {w w1 : World} {x : S39} {ad : Addr} {c : Nat} {v1 : Value} (hC : k39.C w (some ad) x.f5.length x.f5) (hp : 0 < x.f5.length) (hN : Kd.N k39 39 w1 (w.heap.size + 2) (fun q => w.heap.size + 2 ≤ q) v1 (List.replicate x.f5.length z39)) (hB : Below w.heap.size w w1)
    (hbox : w1.heap[w.heap.size]? = some (.cells #[.int .i64 x.f0, .bool x.f1, .int .i64 x.f2, .string x.f3, .string x.f4.f0, .string x.f4.f1, .slice (some ad) x.f5.length c] 39 (0, 0)))
    (hres : w1.heap[w.heap.size + 1]? = some (.cells #[.int .i64 0, .bool false, .int .i64 0, .string ⟨#[]⟩, .string ⟨#[]⟩, .string ⟨#[]⟩, .slice none 0 0] 39 (0, 0))) :
    ∃ g cap w2, v1 = .slice (some ⟨g, 0, none⟩) x.f5.length cap ∧ (∀ ty, (Builtin.copy_ #[37, 37] ty #[.slice (some ⟨g, 0, none⟩) x.f5.length cap, .slice (some ad) x.f5.length c]).run Tryz.prog w1 = .ok (goInt (x.f5.length : Nat)) w2) ∧ TwS w w2 x (some ad) c g cap 0 := by
  obtain ⟨g, cap, he, hb, hlt, cells, hh⟩ := Kd.N_form hN (by simpa using hp)
  rw [List.length_replicate] at he
  subst he
  obtain ⟨_, rows, hrl, ⟨_, inner, ⟨hil, ho⟩, _⟩, _⟩ := hN
  rcases ho with ⟨he, _⟩ | ⟨g', cap', cur, he, hb', hh', hn, hcm, hcs, htk⟩
  · cases he
  injection he with h1 h2 h3
  injection h1 with h1
  injection h1 with h1
  subst h1 h3
  have hl0 : (List.replicate x.f5.length z39).length = x.f5.length := List.length_replicate
  rw [List.length_replicate] at hrl
  rw [hrl] at hn hil htk
  have hsz : k39.sz = 7 := rfl
  have hcs7 : cur.size = cap * 7 := hcs
  obtain ⟨cs, hcl, hcc, h1c, hF⟩ := C_flat k39_heap hC
  rw [hsz] at hcl hF
  have hg2 : w1.heap[g]? = some (.cells cur.toList.toArray 39 (0, 0)) := by simpa using hh'
  have hrun := fun ty => run_copy_wideT (P := Tryz.prog) w1 37 37 ty 39 7 g 0 x.f5.length cap ad x.f5.length c cs Tryz.underlying37 (by kernel_rfl) (by rw [hcl]; simp)
    (fun j v hv => (hB.cell (World.block_lt_of_cell? _ _ (hcc j v hv))).trans (hcc j v hv)) (fun j hj => by rw [Nat.zero_add, blk_cell hh']; rw [Array.getElem?_eq_getElem (by rw [hcs7]; omega)]; rfl) (fun j _ => blk_frozen hh' _) h1c
  refine ⟨g, cap, _, rfl, fun ty => by have := hrun ty; rwa [show Nat.min x.f5.length x.f5.length = x.f5.length from Nat.min_self _] at this, ?_⟩
  refine ⟨hB.trans (below_cellsT g (by omega) cs 0 w1), (setCells_far g cs 0 w1 _ (by omega)).trans hbox, (setCells_far g cs 0 w1 _ (by omega)).trans hres, ?_⟩
  exact Tw.copied k39_heap hC rfl hb cur.toList (by have h9 : cur.size = cap * k39.sz := hcs; simpa using h9) hg2 hn hcm hB (by omega) cs hcl hF _
theorem TwS.below {w wr w1 : World} {x : S39} {A : Option Addr} {c g cap k : Nat} (h : TwS w wr x A c g cap k) (hb : Below wr.heap.size wr w1) : TwS w w1 x A c g cap k :=
  ⟨below_step h.bel hb, (hb.block _ (lt_of_heapT h.box)).trans h.box, (hb.block _ (lt_of_heapT h.res)).trans h.res, h.row.below hb⟩
theorem TwS.elem {w wr : World} {x : S39} {A : Option Addr} {c g cap k : Nat} (h : TwS w wr x A c g cap k) (y : S39) (hy : x.f5[k]? = some y) : ∃ Ay cy, y.f5.length ≤ cy ∧ k39.C wr Ay y.f5.length y.f5 ∧ (∀ i u, (valT y (.slice Ay y.f5.length cy))[i]? = some u → wr.cell? ⟨g, k * 7 + i, none⟩ = some u) ∧ ∀ i, wr.frozen? ⟨g, i, none⟩ = false := by
  obtain ⟨cc, hF, hcell, hfr⟩ := h.row.elem y hy
  obtain ⟨Ay, cy, rfl, hly, hCy⟩ := k39_open (Kd.FK_now hF)
  exact ⟨Ay, cy, hly, hCy, hcell, hfr⟩
theorem TwS.next {w wr : World} {x : S39} {A : Option Addr} {c g cap k : Nat} (h : TwS w wr x A c g cap k) (y : S39) (hy : x.f5[k]? = some y) (b : Nat) (hb : w.heap.size + 2 ≤ b) (hgb : g < b) (Ay A6 : Option Addr) (cy c6 : Nat) (hcell : ∀ i u, (valT y (.slice Ay y.f5.length cy))[i]? = some u → wr.cell? ⟨g, k * 7 + i, none⟩ = some u) (hV : Kd.V k39 39 wr w.heap.size (fun q => b ≤ q) (.slice A6 y.f5.length c6) y.f5) :
    TwS w (wr.setCells g (k * 7) (valT y (.slice A6 y.f5.length c6))) x A c g cap (k + 1) := by
  have hgw := h.row.block.1
  refine ⟨h.bel.trans (below_cellsT g (by omega) _ _ wr), (setCells_far g _ _ wr _ (by omega)).trans h.box, (setCells_far g _ _ wr _ (by omega)).trans h.res, ?_⟩
  refine h.row.store y hy 0 (valT y (.slice A6 y.f5.length c6)) _ hcell rfl (by simp [valT]; exact Nat.le_refl _) ?_
  obtain ⟨_, hl6, hF6⟩ := Kd.V_at hV
  refine Kd.FK_mono (Kd.FK_step (k39_mkF wr _ y hl6 hF6) (fun q hq _ => setCells_far g _ _ wr _ (by omega))) (fun q hq => ⟨by omega, by omega⟩)
theorem TwS.done {w wr : World} {x : S39} {A : Option Addr} {c g cap : Nat} (h : TwS w wr x A c g cap x.f5.length) : Kd.V k39 39 wr w.heap.size (fun q => w.heap.size + 2 ≤ q) (.slice (some ⟨g, 0, none⟩) x.f5.length cap) x.f5 :=
  Kd.V_mono (Kd.N_V h.row.to_N) (fun q hq => by have := h.row.block.1; rcases hq with hq | hq <;> omega)
set_option maxRecDepth 100000 in
set_option maxHeartbeats 8000000 in
theorem twinV_row (x : S39) (hn : 0 < x.f5.length) (hs : x.f5.length ≤ 1000000) (ih : ∀ y ∈ x.f5, TwinV y) : TwinV x := by
  intro A c w hl hC
  obtain ⟨ad, rfl⟩ : ∃ ad, A = some ad := by
    obtain ⟨_, _, h⟩ := hC
    obtain ⟨ad, h, _⟩ := h hn
    exact ⟨ad, h⟩
  have hk0 : ((x.f5.length : Int) == 0) = false := beq_eq_false_iff_ne.mpr (by omega)
  have hk0b : (x.f5.length == 0) = false := beq_eq_false_iff_ne.mpr (by omega)
  have HC := Aside0.mk hC
  have HL := Aside0.mk hl
  have HIH := Aside0.mk ih
  have HN := Aside0.mk hn
  have hm : (x.f5.length : Int) ≤ 1000000 := by omega
  clear hC hl ih hn hs
  go_enter Tryz.func84, Tryz.ntmps84
  go_wp2_with (first | ((with_reducible refine gate_dst (N := 14) rfl ?_); refine Kd.N_make k39 (w.heap.size + 2) 39 rfl (N' := 14) rfl 37 (.tmp 13) (.tmp 13) rfl (x.f5.length : Int) rfl rfl Tryz.underlying37 (.agg #[.int .i64 0, .bool false, .int .i64 0, .string ⟨#[]⟩, .string ⟨#[]⟩, .string ⟨#[]⟩, .slice none 0 0]) 96 info39 rfl (by decide) (by decide) z39 (ok := fun q => w.heap.size + 2 ≤ q) (okp := fun _ => False) (zero_FK _) (fun _ h => h.elim) (by simp) (by omega) (by rw [Int.toNat_natCast]; omega) (Below.refl _ _) (by simp) ?_; intro v1 w1 ho hb hg hat; have HBW : Below w.heap.size w w1 := Below.trans (by repeat (first | exact Below.refl _ _ | apply below_alloc)) (hb.mono (by omega)); have hbx : w1.heap[w.heap.size]? = some (.cells #[.int .i64 x.f0, .bool x.f1, .int .i64 x.f2, .string x.f3, .string x.f4.f0, .string x.f4.f1, .slice (some ad) x.f5.length c] 39 (0, 0)) := (hb.block _ (by omega)).trans ((Below.heap_alloc _ _ _ (by simp)).trans (blk_new _ _)); have hrs : w1.heap[w.heap.size + 1]? = some (.cells #[.int .i64 0, .bool false, .int .i64 0, .string ⟨#[]⟩, .string ⟨#[]⟩, .string ⟨#[]⟩, .slice none 0 0] 39 (0, 0)) := (hb.block _ (by omega)).trans (heap_at _ _ _ (by simp)); obtain ⟨g, cap, w2, rfl, hrun, hS⟩ := tw_start HC.out HN.out (by rw [Int.toNat_natCast] at ho; exact ho) HBW hbx hrs; have HS := Aside0.mk hS; have HR := Aside0.mk hrun; have q6 := hcellT hbx 6 _ rfl; have qsz : w.heap.size < w1.heap.size := lt_of_heapT hbx; clear ho hb hg hat HBW hbx hrs hrun hS) | ((with_reducible refine gate_dst (N := 18) rfl ?_); refine wpList_copy_runI _ rfl _ _ 37 37 rfl _ _ rfl rfl (HR.out _) ?_; clear q6 qsz HR; have q0 := hcellT HS.out.box 0 _ rfl; have q1 := hcellT HS.out.box 1 _ rfl))
  clear q0 q1
  go_loopw [21] (fun i wr => ∃ k : Nat, k ≤ x.f5.length ∧ i = .int .i64 (k : Int) ∧ Aside0 (TwS w wr x (some ad) c g cap k)) (fun i _ => x.f5.length - (intOf i).toNat)
  case atStart => exact ⟨0, Nat.zero_le _, rfl, HS⟩
  case round =>
    clear HS
    obtain ⟨k, hk, rfl, HT⟩ := hrel
    have hwle := HT.out.bel.size
    have hgs := HT.out.row.block.2.1
    have hgb := HT.out.row.block.1
    have hgn : ¬ g = wr.heap.size := Nat.ne_of_lt hgs
    by_cases hlt : k < x.f5.length
    · obtain ⟨y, hy⟩ : ∃ y, x.f5[k]? = some y := ⟨_, List.getElem?_eq_getElem hlt⟩
      obtain ⟨Ay, cy, hly, hCy, hcy, hfy⟩ := HT.out.elem y hy
      have z0 := hcy 0 _ rfl
      have z1 := hcy 1 _ rfl
      have z2 := hcy 2 _ rfl
      have z3 := hcy 3 _ rfl
      have z4 := hcy 4 _ rfl
      have z5 := hcy 5 _ rfl
      have z6 := hcy 6 _ rfl
      simp only [Nat.add_zero] at z0
      have HLY := Aside0.mk hly
      have HCY := Aside0.mk hCy
      have HY := Aside0.mk hy
      have HCE := Aside0.mk hcy
      have HIY := Aside0.mk (HIH.out y (List.mem_of_getElem? hy))
      have hlt0 : decide ((k : Int) < (x.f5.length : Int)) = true := decide_eq_true (by omega)
      have p0_ : (0 ≤ (k : Int)) = True := eq_true (by omega)
      have p1_ : ((k : Int) < (x.f5.length : Int)) = True := eq_true (by omega)
      have hfz := hfy
      clear hly hCy hcy hfy hy
      go_wp2_with (go_at_call 84; refine (HIY.out _ _ _ HLY.out (Kd.C_alloc HCY.out _)).mono ?_; rintro e w3 ⟨v6, rfl, hV, hb⟩; obtain ⟨A6, c6, rfl⟩ := Kd.V_slice hV; have hba := Below.trans (Below.refl wr.heap.size wr |>.alloc (Nat.le_refl _) _) (hb.mono (by simp)); have HT3 := Aside0.mk (HT.out.below hba); have hsz3 : wr.heap.size + 1 ≤ w3.heap.size := (by simpa using hb.size); have HV := Aside0.mk (Kd.V_mono (show Kd.V k39 39 w3 w.heap.size _ _ _ from hV) (ok' := fun q => wr.heap.size + 1 ≤ q) (fun q hq => by simpa using hq)); have HC3 : Aside0 (∀ i u, (valT y (.slice Ay y.f5.length cy))[i]? = some u → w3.cell? ⟨g, k * 7 + i, none⟩ = some u) := ⟨fun i u hu => (hba.cell (p := ⟨g, k * 7 + i, none⟩) hgs).trans (HCE.out i u hu)⟩; have r0 := HC3.out 0 _ rfl; have r1 := HC3.out 1 _ rfl; have r2 := HC3.out 2 _ rfl; have r3 := HC3.out 3 _ rfl; have r4 := HC3.out 4 _ rfl; have r5 := HC3.out 5 _ rfl; have r6 := HC3.out 6 _ rfl; simp only [Nat.add_zero] at r0; have rf : ∀ i, w3.frozen? ⟨g, i, none⟩ = false := (fun i => (hba.frozen (p := ⟨g, i, none⟩) hgs).trans (hfz i)); clear hV hb hba z0 z1 z2 z3 z4 z5 z6)
      have HN3 := Aside0.mk (HT3.out.next y HY.out (wr.heap.size + 1) (by omega) (by omega) Ay A6 cy c6 HC3.out HV.out)
      go_roundw
      case rel => exact ⟨k + 1, by omega, by go_num, ⟨HN3.out⟩⟩
      case measure => simp [intOf]; omega
    · obtain rfl : k = x.f5.length := by omega
      have hlt0 : decide ((x.f5.length : Int) < (x.f5.length : Int)) = false := decide_eq_false (by omega)
      have hbx := HT.out.box
      have q0 := hcellT hbx 0 _ rfl
      have q1 := hcellT hbx 1 _ rfl
      have q2 := hcellT hbx 2 _ rfl
      have q3 := hcellT hbx 3 _ rfl
      have q4 := hcellT hbx 4 _ rfl
      have q5 := hcellT hbx 5 _ rfl
      have q6 := hcellT hbx 6 _ rfl
      have hrs := HT.out.res
      have s0 := hcellT hrs 0 _ rfl
      have s1 := hcellT hrs 1 _ rfl
      have s2 := hcellT hrs 2 _ rfl
      have s3 := hcellT hrs 3 _ rfl
      have s4 := hcellT hrs 4 _ rfl
      have s5 := hcellT hrs 5 _ rfl
      have s6 := hcellT hrs 6 _ rfl
      have qf : ∀ i, wr.frozen? ⟨w.heap.size, i, none⟩ = false := fun i => blk_frozen hbx i
      have sf : ∀ i, wr.frozen? ⟨w.heap.size + 1, i, none⟩ = false := fun i => blk_frozen hrs i
      have HD := Aside0.mk HT.out.done
      have HB := Aside0.mk HT.out.bel
      have HRS := Aside0.mk hrs
      clear hbx hrs HT
      go_wp2
      (try simp only [Exit.inBlock, Exit.then])
      have hd := setCells_heapT (w.heap.size + 1) 39 (0, 0) (valT x (.slice (some ⟨g, 0, none⟩) x.f5.length cap)) 0 (wr.setCell ⟨w.heap.size, 6, none⟩ (.slice (some ⟨g, 0, none⟩) x.f5.length cap)) _ ((Below.heap_setCell _ _ _ _ (by simp)).trans HRS.out) (by simp [valT])
      have hbl := HB.out.trans (((Below.refl w.heap.size wr).setCell (p := ⟨w.heap.size, 6, none⟩) (Nat.le_refl _) (.slice (some ⟨g, 0, none⟩) x.f5.length cap)).trans (below_cellsT (w.heap.size + 1) (by omega) (valT x (.slice (some ⟨g, 0, none⟩) x.f5.length cap)) 0 _))
      have hv : Kd.V k39 39 ((wr.setCell ⟨w.heap.size, 6, none⟩ (.slice (some ⟨g, 0, none⟩) x.f5.length cap)).setCells (w.heap.size + 1) 0 (valT x (.slice (some ⟨g, 0, none⟩) x.f5.length cap))) w.heap.size (fun q => w.heap.size + 2 ≤ q) (.slice (some ⟨g, 0, none⟩) x.f5.length cap) x.f5 :=
        Kd.V_step HD.out (fun q hq _ => (setCells_far _ _ _ _ _ (by omega)).trans (Below.heap_setCell _ _ _ _ (by simp; omega)))
      simp only [World.setCells, valT] at hd hbl hv
      refine bodyPost_ret (results_one rfl _ _ (w.heap.size + 1) 39 _ (0, 0) _ rfl hd Tryz.underlying39 rfl (by kernel_rfl)) rfl ?_
      exact ⟨_, rfl, Kd.V_mono hv (fun q hq => by omega), hbl⟩
theorem twinV_all : ∀ (n : Nat) (x : S39), SizeOf.sizeOf x < n → smV x = true → TwinV x
  | 0, _, h, _ => absurd h (Nat.not_lt_zero _)
  | n + 1, ⟨f0, f1, f2, f3, f4, l⟩, h, hs => by
    simp only [smV, Bool.and_eq_true, decide_eq_true_eq] at hs
    by_cases h0 : l.length = 0
    · exact twinV_nil _ h0
    · exact twinV_row _ (show 0 < l.length by omega) hs.1 (fun y hy => twinV_all n y (by have hy' : y ∈ l := hy; have := List.sizeOf_lt_of_mem hy'; simp at h; omega) (smL_mem l hs.2 y hy))
theorem twinV_any (x : S39) (hs : smV x = true) : TwinV x := twinV_all _ x (Nat.lt_succ_self _) hs
/-- Behind an append of a whole row onto a new one. -/
theorem Tw.of_owns {α : Type} {d : Kd α} {e : Nat} {w w' : World} {base n : Nat} {v : Value} {xs : List α} (hn : xs.length = n) (hp : 0 < n) (cs : List Value) (ho : w'.ownsRow base e d.sz v n cs) (hgb : w.heap.size ≤ base) (hB : Below w.heap.size w w') {okS : Nat → Prop} (hF : ∀ (j : Nat) (x : α), xs[j]? = some x → Kd.FK d w okS x ((cs.drop (j * d.sz)).take d.sz)) :
    ∃ g cap, v = .slice (some ⟨g, 0, none⟩) n cap ∧ n ≤ cap ∧ ∀ ok1 : Nat → Prop, Tw d e w' base g n cap xs 0 ok1 (fun q => okS q ∧ q < w.heap.size) := by
  have ho2 := ho
  obtain ⟨hl, ho⟩ := ho
  rcases ho with ⟨_, h0⟩ | ⟨g, cap, cur, rfl, hb, hh, hnc, hcm, hcs, htk⟩
  · omega
  refine ⟨g, cap, rfl, hnc, fun ok1 => ⟨hn, cs, ho2, fun j x hj => ?_⟩⟩
  refine Kd.FK_mono (Kd.FK_step (Kd.FK_bound (hF j x hj)) (fun q hq hlt => hB.block q hlt)) (fun q hq => ⟨?_, by omega⟩)
  rw [if_neg (by omega)]
  exact hq
theorem N_empty {α : Type} {d : Kd α} {e : Nat} {w : World} {base : Nat} {v : Value} (h : w.ownsRow base e d.sz v 0 []) : Kd.N d e w base (fun q => base ≤ q) v [] :=
  ⟨fun q hq => own_base h q hq, [], rfl, ⟨fun q hq => hq.symm, [], h, ⟨by simp, fun j p hp => by simp at hp⟩⟩, fun j x c hx => by simp at hx⟩
theorem own_empty (w : World) (e : TypeId) (sz : Nat) : (w.alloc (.cells #[] e)).ownsRow w.heap.size e sz (.slice (some ⟨w.heap.size, 0, none⟩) 0 0) 0 [] := ⟨by simp, .inr ⟨w.heap.size, 0, #[], rfl, Nat.le_refl _, blk_new _ _, Nat.le_refl _, Nat.zero_le _, by simp, by simp⟩⟩
/-- What a clone of a row is: nothing, or a row of the call's own. -/
def CloneOk {α : Type} (d : Kd α) (e : Nat) (w : World) (okS : Nat → Prop) (xs : List α) (v : Value) (w' : World) : Prop :=
  (xs = [] ∧ Kd.N d e w' w.heap.size (fun q => w.heap.size ≤ q) v []) ∨ ∃ g cap, v = .slice (some ⟨g, 0, none⟩) xs.length cap ∧ xs.length ≤ cap ∧ ∀ ok1, Tw d e w' w.heap.size g xs.length cap xs 0 ok1 (fun q => okS q ∧ q < w.heap.size)
set_option maxRecDepth 100000 in
set_option maxHeartbeats 8000000 in
theorem cloneUid (xs : List S28) (A : Option Addr) (c : Nat) (w : World) (hl : xs.length ≤ c) (hm : xs.length ≤ 1000000) (okS : Nat → Prop) (hC : Kd.F k28 w okS A xs.length xs) :
    Calls Tryz.prog 79 #[.slice A xs.length c] w fun e w' => ∃ v, e = .returned v ∧ CloneOk k28 28 w okS xs v w' ∧ Below w.heap.size w w' := by
  have heq := fun (W : World) => Lib.run_eql_slice_nil (P := Tryz.prog) W 29 28 A xs.length c 0 0 Tryz.underlying29
  obtain ⟨i0, hi0, hz0, hzs, hzb⟩ := info_parts info28
  by_cases h0 : xs.length = 0
  · have hx : xs = [] := List.eq_nil_of_length_eq_zero h0
    subst hx
    simp only [List.length_nil] at heq ⊢
    cases A with
    | none =>
      simp only [Option.isNone_none] at heq
      go_enter Tryz.func79, Tryz.ntmps79
      go_wp2
      go_ret
      exact ⟨_, rfl, Or.inl ⟨rfl, Kd.N_nil _ _ _ _ _⟩, Below.refl _ _⟩
    | some ad =>
      simp only [Option.isNone_some] at heq
      go_enter Tryz.func79, Tryz.ntmps79
      go_wp2
      go_ret
      exact ⟨_, rfl, Or.inl ⟨rfl, N_empty (own_empty w _ _)⟩, by repeat (first | exact Below.refl _ _ | apply below_alloc)⟩
  · obtain ⟨ad, rfl⟩ : ∃ ad, A = some ad := by
      obtain ⟨_, _, h⟩ := Kd.F_now hC
      obtain ⟨ad, h, _⟩ := h (by omega)
      exact ⟨ad, h⟩
    obtain ⟨cs, hcl, hcc, h1c, hF⟩ := F_flat hC
    go_enter Tryz.func79, Tryz.ntmps79
    go_wp2_with ((with_reducible refine gate_dst (N := 7) rfl ?_); refine wpList_append_own_wide _ rfl (.tmp 5) (.tmp 6) 29 rfl w.heap.size 28 i0 _ 2 32 Tryz.underlying29 hi0 hz0 hzs hzb rfl (by decide) (.slice (some ⟨w.heap.size, 0, none⟩) 0 0) 0 [] rfl (own_empty w _ _) ad xs.length c cs rfl hcl (fun j u hu => (Below.cell (below_alloc (Below.refl _ _) _) (World.block_lt_of_cell? _ _ (hcc j u hu))).trans (hcc j u hu)) h1c (by unfold maxLen; omega) (by omega) (by simp) ?_; intro v1 w1 ho hg _; have HO := Aside0.mk ho; have HG := Aside0.mk hg; clear ho hg)
    go_ret
    have hB : Below w.heap.size w w1 := (below_alloc (Below.refl _ _) _).grown HG.out (by simp) (fun k hk => by simp [Value.ownBlock] at hk; omega)
    have ho := HO.out
    rw [Nat.zero_add, List.nil_append] at ho
    obtain ⟨g, cap, rfl, hnc, ht⟩ := Tw.of_owns (d := k28) rfl (by omega) cs ho (Nat.le_refl _) hB hF
    exact ⟨_, rfl, Or.inr ⟨g, cap, rfl, hnc, ht⟩, hB⟩
set_option maxRecDepth 100000 in
set_option maxHeartbeats 8000000 in
theorem cloneAttr (xs : List S67) (A : Option Addr) (c : Nat) (w : World) (hl : xs.length ≤ c) (hm : xs.length ≤ 1000000) (okS : Nat → Prop) (hC : Kd.F k67 w okS A xs.length xs) :
    Calls Tryz.prog 90 #[.slice A xs.length c] w fun e w' => ∃ v, e = .returned v ∧ CloneOk k67 67 w okS xs v w' ∧ Below w.heap.size w w' := by
  have heq := fun (W : World) => Lib.run_eql_slice_nil (P := Tryz.prog) W 30 67 A xs.length c 0 0 Tryz.underlying30
  obtain ⟨i0, hi0, hz0, hzs, hzb⟩ := info_parts info67
  by_cases h0 : xs.length = 0
  · have hx : xs = [] := List.eq_nil_of_length_eq_zero h0
    subst hx
    simp only [List.length_nil] at heq ⊢
    cases A with
    | none =>
      simp only [Option.isNone_none] at heq
      go_enter Tryz.func90, Tryz.ntmps90
      go_wp2
      go_ret
      exact ⟨_, rfl, Or.inl ⟨rfl, Kd.N_nil _ _ _ _ _⟩, Below.refl _ _⟩
    | some ad =>
      simp only [Option.isNone_some] at heq
      go_enter Tryz.func90, Tryz.ntmps90
      go_wp2
      go_ret
      exact ⟨_, rfl, Or.inl ⟨rfl, N_empty (own_empty w _ _)⟩, by repeat (first | exact Below.refl _ _ | apply below_alloc)⟩
  · obtain ⟨ad, rfl⟩ : ∃ ad, A = some ad := by
      obtain ⟨_, _, h⟩ := Kd.F_now hC
      obtain ⟨ad, h, _⟩ := h (by omega)
      exact ⟨ad, h⟩
    obtain ⟨cs, hcl, hcc, h1c, hF⟩ := F_flat hC
    go_enter Tryz.func90, Tryz.ntmps90
    go_wp2_with ((with_reducible refine gate_dst (N := 7) rfl ?_); refine wpList_append_own_wide _ rfl (.tmp 5) (.tmp 6) 30 rfl w.heap.size 67 i0 _ 8 112 Tryz.underlying30 hi0 hz0 hzs hzb rfl (by decide) (.slice (some ⟨w.heap.size, 0, none⟩) 0 0) 0 [] rfl (own_empty w _ _) ad xs.length c cs rfl hcl (fun j u hu => (Below.cell (below_alloc (Below.refl _ _) _) (World.block_lt_of_cell? _ _ (hcc j u hu))).trans (hcc j u hu)) h1c (by unfold maxLen; omega) (by omega) (by simp) ?_; intro v1 w1 ho hg _; have HO := Aside0.mk ho; have HG := Aside0.mk hg; clear ho hg)
    go_ret
    have hB : Below w.heap.size w w1 := (below_alloc (Below.refl _ _) _).grown HG.out (by simp) (fun k hk => by simp [Value.ownBlock] at hk; omega)
    have ho := HO.out
    rw [Nat.zero_add, List.nil_append] at ho
    obtain ⟨g, cap, rfl, hnc, ht⟩ := Tw.of_owns (d := k67) rfl (by omega) cs ho (Nat.le_refl _) hB hF
    exact ⟨_, rfl, Or.inr ⟨g, cap, rfl, hnc, ht⟩, hB⟩
theorem CloneOk.slice {α : Type} {d : Kd α} {e : Nat} {w w' : World} {okS : Nat → Prop} {xs : List α} {v : Value} (h : CloneOk d e w okS xs v w') : ∃ A c, v = .slice A xs.length c ∧ (xs.length ≤ c) := by
  rcases h with ⟨rfl, hN⟩ | ⟨g, cap, rfl, hn, ht⟩
  · obtain ⟨A', c', rfl⟩ := Kd.N_slice hN
    exact ⟨A', c', rfl, Nat.zero_le _⟩
  · exact ⟨_, _, rfl, hn⟩
theorem V_empty {α : Type} (d : Kd α) (e : Nat) (w : World) (base : Nat) (ok : Nat → Prop) (A : Option Addr) (c : Nat) : Kd.V d e w base ok (.slice A 0 c) [] := ⟨A, c, rfl, Nat.zero_le _, fun W' _ => ⟨rfl, by simp, fun h => absurd h (Nat.lt_irrefl 0)⟩⟩
theorem CloneOk.V_uid {w w' : World} {okS : Nat → Prop} {xs : List S28} {v : Value} (h : CloneOk k28 28 w okS xs v w') : Kd.V k28 28 w' w.heap.size (fun q => w.heap.size ≤ q) v xs := by
  rcases h with ⟨rfl, hN⟩ | ⟨g, cap, rfl, hn, ht⟩
  · exact Kd.N_V hN
  · have h1 := ht (fun _ => False)
    have hb := h1.block.1
    have h2 : Tw k28 28 w' w.heap.size g xs.length cap xs xs.length (fun _ => False) (fun q => okS q ∧ q < w.heap.size) := by
      obtain ⟨hx, inner, ho, hf⟩ := h1
      refine ⟨hx, inner, ho, fun j x hj => ?_⟩
      have hF := Kd.FK_now (hf j x hj)
      rw [k28_open hF]
      exact k28_mkF w' _ x
    exact Kd.V_mono (Kd.N_V h2.to_N) (fun q hq => by rcases hq with hq | hq; exact hq.elim; omega)
/-- ents.twin gives the entity again, in memory of its own. -/
def TwinE (x : S32) : Prop := ∀ (A2 : Option Addr) (c2 : Nat) (A3 : Option Addr) (c3 : Nat) (w : World), x.f1.length ≤ c2 → k28.C w A2 x.f1.length x.f1 → x.f2.length ≤ c3 → k67.C w A3 x.f2.length x.f2 →
  Calls Tryz.prog 83 #[.agg #[.string x.f0.f0, .string x.f0.f1, .slice A2 x.f1.length c2, .slice A3 x.f2.length c3]] w fun e w' => ∃ v2 v3 : Value, e = .returned (.agg #[.string x.f0.f0, .string x.f0.f1, v2, v3]) ∧ Kd.V k28 28 w' w.heap.size (fun k_ => w.heap.size ≤ k_) v2 x.f1 ∧ Kd.V k67 67 w' w.heap.size (fun k_ => w.heap.size ≤ k_) v3 x.f2 ∧ Below w.heap.size w w'
/-- Behind the clones. -/
structure TwA (w wr : World) (x : S32) (v2 : Value) (A3 : Option Addr) (cap k : Nat) : Prop where
  bel : Below w.heap.size w wr
  box : wr.heap[w.heap.size]? = some (.cells #[.string x.f0.f0, .string x.f0.f1, v2, .slice A3 x.f2.length cap] 32 (0, 0))
  res : wr.heap[w.heap.size + 1]? = some (.cells #[.string ⟨#[]⟩, .string ⟨#[]⟩, .slice none 0 0, .slice none 0 0] 32 (0, 0))
  par : Kd.V k28 28 wr w.heap.size (fun q => w.heap.size + 2 ≤ q ∧ (0 < x.f2.length → some q ≠ A3.map (fun a => a.block))) v2 x.f1
  row : x.f2.length = 0 ∨ ∃ g, A3 = some ⟨g, 0, none⟩ ∧ Tw k67 67 wr (w.heap.size + 2) g x.f2.length cap x.f2 k (fun q => w.heap.size + 2 ≤ q) (fun q => q < w.heap.size)
theorem ownsRow_lower {w : World} {base base' : Nat} {e : TypeId} {sz n : Nat} {v : Value} {xs : List Value} (h : w.ownsRow base e sz v n xs) (hb : base' ≤ base) : w.ownsRow base' e sz v n xs := by
  obtain ⟨h1, h2⟩ := h
  refine ⟨h1, ?_⟩
  rcases h2 with h2 | ⟨g, cap, cur, hv, hg, r⟩
  · exact Or.inl h2
  · exact Or.inr ⟨g, cap, cur, hv, Nat.le_trans hb hg, r⟩
theorem heap_set2 {w : World} {b : Nat} {c0 c1 c2 c3 u : Value} {e : TypeId} {fz : Nat × Nat} (h : w.heap[b]? = some (.cells #[c0, c1, c2, c3] e fz)) : (w.setCell ⟨b, 2, none⟩ u).heap[b]? = some (.cells #[c0, c1, u, c3] e fz) := setCell_heapT w b 2 u [c0, c1, c2, c3] e fz h
theorem heap_set3 {w : World} {b : Nat} {c0 c1 c2 c3 u : Value} {e : TypeId} {fz : Nat × Nat} (h : w.heap[b]? = some (.cells #[c0, c1, c2, c3] e fz)) : (w.setCell ⟨b, 3, none⟩ u).heap[b]? = some (.cells #[c0, c1, c2, u] e fz) := setCell_heapT w b 3 u [c0, c1, c2, c3] e fz h
theorem TwA.start {w w1 w2 : World} {x : S32} {A2' : Option Addr} {c2' : Nat} {A3 : Option Addr} {c3 : Nat} {v : Value} (HB1 : Below w.heap.size w w1) (HX1 : w1.heap[w.heap.size]? = some (.cells #[.string x.f0.f0, .string x.f0.f1, .slice A2' x.f1.length c2', .slice A3 x.f2.length c3] 32 (0, 0)))
    (HR1 : w1.heap[w.heap.size + 1]? = some (.cells #[.string ⟨#[]⟩, .string ⟨#[]⟩, .slice none 0 0, .slice none 0 0] 32 (0, 0)))
    (HV1 : Kd.V k28 28 w1 w.heap.size (fun q => w.heap.size + 2 ≤ q) (.slice A2' x.f1.length c2') x.f1) (hcl : CloneOk k67 67 w1 (fun q => q < w.heap.size) x.f2 v w2) (hb : Below w1.heap.size w1 w2) :
    ∃ A3' c3', v = .slice A3' x.f2.length c3' ∧ x.f2.length ≤ c3' ∧ TwA w (w2.setCell ⟨w.heap.size, 3, none⟩ v) x (.slice A2' x.f1.length c2') A3' c3' 0 ∧ w2.heap[w.heap.size]? = some (.cells #[.string x.f0.f0, .string x.f0.f1, .slice A2' x.f1.length c2', .slice A3 x.f2.length c3] 32 (0, 0)) := by
  have hs1 := lt_of_heapT HR1
  have hX2 := (hb.block _ (by omega)).trans HX1
  have hR2 := (hb.block _ (by omega)).trans HR1
  have hbel : ∀ u, Below w.heap.size w (w2.setCell ⟨w.heap.size, 3, none⟩ u) := fun u => (HB1.trans (hb.mono (by omega))).trans ((Below.refl w.heap.size w2).setCell (p := ⟨w.heap.size, 3, none⟩) (Nat.le_refl _) u)
  have hV2 : ∀ u, Kd.V k28 28 (w2.setCell ⟨w.heap.size, 3, none⟩ u) w.heap.size (fun q => w.heap.size + 2 ≤ q ∧ q < w1.heap.size) (.slice A2' x.f1.length c2') x.f1 := fun u => Kd.V_far (Kd.V_below (Kd.V_bound HV1) hb) (p := ⟨w.heap.size, 3, none⟩) (fun q hq => by simp; omega) u
  rcases hcl with ⟨h0, hN⟩ | ⟨g, cap, rfl, hn, ht⟩
  · have h1 : x.f2.length = 0 := by rw [h0]; rfl
    obtain ⟨A', c', rfl⟩ := Kd.N_slice hN
    refine ⟨A', c', by rw [h1]; rfl, by omega, ⟨hbel _, by rw [h1]; exact heap_set3 hX2, (Below.heap_setCell _ _ _ _ (by simp)).trans hR2, Kd.V_mono (hV2 _) (fun q hq => ⟨hq.1, fun h => by omega⟩), Or.inl h1⟩, hX2⟩
  · have hg := (ht (fun _ => False)).block
    refine ⟨_, _, rfl, hn, ⟨hbel _, heap_set3 hX2, (Below.heap_setCell _ _ _ _ (by simp)).trans hR2, Kd.V_mono (hV2 _) (fun q hq => ⟨hq.1, fun _ => by simp; omega⟩), Or.inr ⟨g, rfl, ?_⟩⟩, hX2⟩
    refine Tw.step (w := w2) ?_ (Below.heap_setCell _ _ _ _ (by simp; omega)) (fun q hq _ _ => Below.heap_setCell _ _ _ _ (by simp; omega)) (fun q hq _ _ => Below.heap_setCell _ _ _ _ (by simp; omega))
    obtain ⟨h5, inner, ho, hf⟩ := ht (fun q => w.heap.size + 2 ≤ q)
    refine ⟨h5, inner, ownsRow_lower ho (by omega), fun j a hj => Kd.FK_mono (hf j a hj) (fun q hq => ⟨?_, hq.2⟩)⟩
    have := hq.1
    rw [if_neg (by omega)] at this ⊢
    exact this.1
theorem TwA.below {w wr w1 : World} {x : S32} {v2 : Value} {A3 : Option Addr} {cap k : Nat} (h : TwA w wr x v2 A3 cap k) (hb : Below wr.heap.size wr w1) : TwA w w1 x v2 A3 cap k :=
  ⟨below_step h.bel hb, (hb.block _ (lt_of_heapT h.box)).trans h.box, (hb.block _ (lt_of_heapT h.res)).trans h.res, Kd.V_below h.par hb, h.row.imp id (fun ⟨g, he, ht⟩ => ⟨g, he, ht.below hb⟩)⟩
theorem TwA.elem {w wr : World} {x : S32} {v2 : Value} {A3 : Option Addr} {cap k : Nat} (h : TwA w wr x v2 A3 cap k) (y : S67) (hy : x.f2[k]? = some y) : ∃ g Ay cy, A3 = some ⟨g, 0, none⟩ ∧ g < wr.heap.size ∧ w.heap.size + 2 ≤ g ∧ y.f1.f5.length ≤ cy ∧ k39.C wr Ay y.f1.f5.length y.f1.f5 ∧ (∀ i u, (Value.string y.f0 :: valT y.f1 (.slice Ay y.f1.f5.length cy))[i]? = some u → wr.cell? ⟨g, k * 8 + i, none⟩ = some u) ∧ ∀ i, wr.frozen? ⟨g, i, none⟩ = false := by
  have hk := (List.getElem?_eq_some_iff.1 hy).1
  rcases h.row with h0 | ⟨g, he, ht⟩
  · omega
  obtain ⟨cc, hF, hcell, hfr⟩ := ht.elem y hy
  obtain ⟨Ay, cy, rfl, hly, hCy⟩ := k67_open (Kd.FK_now hF)
  exact ⟨g, Ay, cy, he, ht.block.2.1, ht.block.1, hly, hCy, hcell, hfr⟩
theorem TwA.next {w wr : World} {x : S32} {v2 : Value} {g cap k : Nat} (h : TwA w wr x v2 (some ⟨g, 0, none⟩) cap k) (y : S67) (hy : x.f2[k]? = some y) (b : Nat) (hb : w.heap.size + 2 ≤ b) (hgb : g < b) (Ay A6 : Option Addr) (cy c6 : Nat) (hcell : ∀ i u, (Value.string y.f0 :: valT y.f1 (.slice Ay y.f1.f5.length cy))[i]? = some u → wr.cell? ⟨g, k * 8 + i, none⟩ = some u) (hV : Kd.V k39 39 wr w.heap.size (fun q => b ≤ q) (.slice A6 y.f1.f5.length c6) y.f1.f5) :
    TwA w (wr.setCells g (k * 8 + 1) (valT y.f1 (.slice A6 y.f1.f5.length c6))) x v2 (some ⟨g, 0, none⟩) cap (k + 1) := by
  have hk := (List.getElem?_eq_some_iff.1 hy).1
  rcases h.row with h0 | ⟨g', he, ht⟩
  · omega
  obtain rfl : g = g' := by have h9 := congrArg (fun o : Option Addr => match o with | some (a : Addr) => a.block | none => 0) he; exact h9
  have hgw := ht.block.1
  refine ⟨h.bel.trans (below_cellsT g (by omega) _ _ wr), (setCells_far g _ _ wr _ (by omega)).trans h.box, (setCells_far g _ _ wr _ (by omega)).trans h.res, Kd.V_step h.par (fun q hq _ => setCells_far g _ _ wr _ (fun he => hq.2 (by omega) (by simp [he]))), Or.inr ⟨g, rfl, ?_⟩⟩
  obtain ⟨_, hl6, hF6⟩ := Kd.V_at hV
  have hFK : Kd.FK k67 (wr.setCells g (k * 8 + 1) (valT y.f1 (.slice A6 y.f1.f5.length c6))) (fun q => w.heap.size + 2 ≤ q ∧ q ≠ g) y (Value.string y.f0 :: valT y.f1 (.slice A6 y.f1.f5.length c6)) := Kd.FK_mono (Kd.FK_step (k67_mkF wr (fun q => b ≤ q) y hl6 hF6) (fun q hq _ => setCells_far g _ _ wr _ (by omega))) (fun q hq => ⟨by omega, by omega⟩)
  have hsz : k67.sz = 8 := rfl
  have hst := ht.store y hy 1 (valT y.f1 (.slice A6 y.f1.f5.length c6)) (Value.string y.f0 :: valT y.f1 (.slice Ay y.f1.f5.length cy)) (by rw [hsz]; exact hcell) (by rw [hsz]; rfl) (by rw [hsz]; exact Nat.le_refl _)
  rw [hsz] at hst
  exact hst hFK
theorem TwA.done {w wr : World} {x : S32} {v2 : Value} {A3 : Option Addr} {cap : Nat} (hc : x.f2.length ≤ cap) (h : TwA w wr x v2 A3 cap x.f2.length) : Kd.V k67 67 wr w.heap.size (fun q => w.heap.size + 2 ≤ q) (.slice A3 x.f2.length cap) x.f2 := by
  rcases h.row with h0 | ⟨g, rfl, ht⟩
  · have := List.eq_nil_of_length_eq_zero h0
    rw [this]
    exact V_empty _ _ _ _ _ _ _
  · exact Kd.V_mono (Kd.N_V ht.to_N) (fun q hq => by have := ht.block.1; rcases hq with hq | hq <;> omega)
set_option maxRecDepth 100000 in
set_option maxHeartbeats 8000000 in
theorem twinE_any (x : S32) (h2 : x.f1.length ≤ 1000000) (h3 : x.f2.length ≤ 1000000) (hv : ∀ a ∈ x.f2, smV a.f1 = true) : TwinE x := by
  intro A2 c2 A3 c3 w hl2 hC2 hl3 hC3
  have HF2 := Aside0.mk (Kd.C_F k28_heap hC2)
  have HF3 := Aside0.mk (Kd.C_F k67_heap hC3)
  have HL2 := Aside0.mk hl2
  have HL3 := Aside0.mk hl3
  have H2 := Aside0.mk h2
  have H3 := Aside0.mk h3
  have HSV := Aside0.mk hv
  have hm : (x.f2.length : Int) ≤ 1000000 := by omega
  clear hC2 hC3 hl2 hl3 h2 h3 hv
  go_enter Tryz.func83, Tryz.ntmps83
  go_wp2_with (first | (go_at_call 79; refine (cloneUid x.f1 A2 c2 _ HL2.out H2.out _ (Kd.F_below HF2.out (by repeat (first | exact Below.refl _ _ | apply below_alloc)))).mono ?_; rintro e w1 ⟨v, rfl, hcl, hb⟩; have hvu := hcl.V_uid; obtain ⟨A2', c2', rfl⟩ := Kd.V_slice hvu; have HVU := Aside0.mk (Kd.V_mono (show Kd.V k28 28 w1 w.heap.size _ _ _ from hvu) (ok' := fun q => w.heap.size + 2 ≤ q) (fun q hq => by simpa using hq)); have HB1 : Aside0 (Below w.heap.size w w1) := ⟨Below.trans (by repeat (first | exact Below.refl _ _ | apply below_alloc)) (hb.mono (by simp; omega))⟩; have HX1 : Aside0 (w1.heap[w.heap.size]? = some (.cells #[.string x.f0.f0, .string x.f0.f1, .slice A2 x.f1.length c2, .slice A3 x.f2.length c3] 32 (0, 0))) := ⟨(hb.block _ (by simp; omega)).trans ((Below.heap_alloc _ _ _ (by simp)).trans (blk_new _ _))⟩; have HR1 : Aside0 (w1.heap[w.heap.size + 1]? = some (.cells #[.string ⟨#[]⟩, .string ⟨#[]⟩, .slice none 0 0, .slice none 0 0] 32 (0, 0))) := ⟨(hb.block _ (by simp)).trans (heap_at _ _ _ (by simp))⟩; have q2 := hcellT HX1.out 2 _ rfl; have q3 := hcellT HX1.out 3 _ rfl; have qf : ∀ i, w1.frozen? ⟨w.heap.size, i, none⟩ = false := (fun i => blk_frozen HX1.out i); have hz1 := lt_of_heapT HR1.out; clear hcl hb hvu) | (go_at_call 90; refine (cloneAttr x.f2 A3 c3 _ HL3.out H3.out _ (Kd.F_far (Kd.F_below HF3.out HB1.out) (fun k hk => by simp; omega) _)).mono ?_; rintro e w2 ⟨v, rfl, hcl, hb⟩; obtain ⟨A3', c3', rfl, hc3, hT, hX2⟩ := TwA.start (HB1.out.trans ((Below.refl w.heap.size w1).setCell (p := ⟨w.heap.size, 2, none⟩) (Nat.le_refl _) _)) (heap_set2 HX1.out) ((Below.heap_setCell _ _ _ _ (by simp)).trans HR1.out) (Kd.V_far HVU.out (p := ⟨w.heap.size, 2, none⟩) (fun q hq => by simp; omega) _) hcl hb; have HT0 := Aside0.mk hT; have HC3 := Aside0.mk hc3; have r3 := hcellT hX2 3 _ rfl; have rf : ∀ i, w2.frozen? ⟨w.heap.size, i, none⟩ = false := (fun i => blk_frozen hX2 i); have hz2 := lt_of_heapT hX2; clear hcl hb hT hc3 hX2 q2 q3 qf hz1))
  clear HX1 HR1 HB1 HVU r3 rf hz2
  go_loopw [16] (fun i wr => ∃ k : Nat, k ≤ x.f2.length ∧ i = .int .i64 (k : Int) ∧ Aside0 (TwA w wr x (.slice A2' x.f1.length c2') A3' c3' k)) (fun i _ => x.f2.length - (intOf i).toNat)
  case atStart => exact ⟨0, Nat.zero_le _, rfl, HT0⟩
  case round =>
    clear HT0
    obtain ⟨k, hk, rfl, HT⟩ := hrel
    have hwle := HT.out.bel.size
    have hbx := HT.out.box
    have hrs := HT.out.res
    have hz3 := lt_of_heapT hrs
    by_cases hlt : k < x.f2.length
    · obtain ⟨y, hy⟩ : ∃ y, x.f2[k]? = some y := ⟨_, List.getElem?_eq_getElem hlt⟩
      obtain ⟨g, Ay, cy, hA, hgs, hgb, hly, hCy, hcy, hfy⟩ := HT.out.elem y hy
      subst hA
      have hgn : ¬ g = wr.heap.size := Nat.ne_of_lt hgs
      have z0 := hcy 0 _ rfl
      have z1 := hcy 1 _ rfl
      have z2 := hcy 2 _ rfl
      have z3 := hcy 3 _ rfl
      have z4 := hcy 4 _ rfl
      have z5 := hcy 5 _ rfl
      have z6 := hcy 6 _ rfl
      have z7 := hcy 7 _ rfl
      simp only [Nat.add_zero] at z0
      have b3 : wr.cell? ⟨w.heap.size, 3, none⟩ = some (.slice (some ⟨g, 0, none⟩) x.f2.length c3') := hcellT hbx 3 _ rfl
      have hbn : ¬ w.heap.size = wr.heap.size := by omega
      have HLY := Aside0.mk hly
      have HCY := Aside0.mk hCy
      have HY := Aside0.mk hy
      have HCE := Aside0.mk hcy
      have HFZ := Aside0.mk hfy
      have HIY := Aside0.mk (twinV_any y.f1 (HSV.out y (List.mem_of_getElem? hy)))
      have hlt0 : decide ((k : Int) < (x.f2.length : Int)) = true := decide_eq_true (by omega)
      have p0_ : (0 ≤ (k : Int)) = True := eq_true (by omega)
      have p1_ : ((k : Int) < (x.f2.length : Int)) = True := eq_true (by omega)
      clear hly hCy hcy hfy hy hbx hrs
      go_wp2_with (fail)
      generalize hwd : wr.alloc (Obj.cells #[Value.string y.f0, Value.int IntKind.i64 y.f1.f0, Value.bool y.f1.f1, Value.int IntKind.i64 y.f1.f2, Value.string y.f1.f3, Value.string y.f1.f4.f0, Value.string y.f1.f4.f1, Value.slice Ay y.f1.f5.length cy] 67) = wd
      have hbd : Below wr.heap.size wr wd := by rw [← hwd]; exact below_alloc (Below.refl _ _) _
      have hsd : wd.heap.size = wr.heap.size + 1 := by rw [← hwd]; simp
      have hxd : wd.heap[wr.heap.size]? = some (.cells #[Value.string y.f0, Value.int IntKind.i64 y.f1.f0, Value.bool y.f1.f1, Value.int IntKind.i64 y.f1.f2, Value.string y.f1.f3, Value.string y.f1.f4.f0, Value.string y.f1.f4.f1, Value.slice Ay y.f1.f5.length cy] 67 (0, 0)) := by rw [← hwd]; exact blk_new _ _
      have d3 : wd.cell? ⟨w.heap.size, 3, none⟩ = some (.slice (some ⟨g, 0, none⟩) x.f2.length c3') := (hbd.cell (p := ⟨w.heap.size, 3, none⟩) (by show w.heap.size < _; omega)).trans b3
      have d41 : wd.cell? ⟨wr.heap.size, 1, none⟩ = some (.int .i64 y.f1.f0) := hcellT hxd 1 _ rfl
      have d42 : wd.cell? ⟨wr.heap.size, 2, none⟩ = some (.bool y.f1.f1) := hcellT hxd 2 _ rfl
      have d43 : wd.cell? ⟨wr.heap.size, 3, none⟩ = some (.int .i64 y.f1.f2) := hcellT hxd 3 _ rfl
      have d44 : wd.cell? ⟨wr.heap.size, 4, none⟩ = some (.string y.f1.f3) := hcellT hxd 4 _ rfl
      have d45 : wd.cell? ⟨wr.heap.size, 5, none⟩ = some (.string y.f1.f4.f0) := hcellT hxd 5 _ rfl
      have d46 : wd.cell? ⟨wr.heap.size, 6, none⟩ = some (.string y.f1.f4.f1) := hcellT hxd 6 _ rfl
      have d47 : wd.cell? ⟨wr.heap.size, 7, none⟩ = some (.slice Ay y.f1.f5.length cy) := hcellT hxd 7 _ rfl
      have HBD := Aside0.mk hbd
      have HSD := Aside0.mk hsd
      clear hwd hbd hsd hxd z0 z1 z2 z3 z4 z5 z6 z7 b3
      go_region_with ((go_at_call 84; refine (HIY.out _ _ _ HLY.out (Kd.C_drew (Kd.C_below HCY.out HBD.out))).mono ?_; rintro e w3 ⟨v6, rfl, hV, hb⟩; obtain ⟨A6, c6, rfl⟩ := Kd.V_slice hV; have hba : Below wr.heap.size wr w3 := (HBD.out.drew).trans (hb.mono (by have := HSD.out; simp; omega)); have HT3 := Aside0.mk (HT.out.below hba); have hsz3 : wr.heap.size + 1 ≤ w3.heap.size := (by have := HSD.out; have h9 := hb.size; simp at h9; omega); have HVV := Aside0.mk (Kd.V_mono (show Kd.V k39 39 w3 w.heap.size _ _ _ from hV) (ok' := fun q => wr.heap.size + 1 ≤ q) (fun q hq => (by have := HSD.out; simp at hq; omega))); have HC3_ : Aside0 (∀ i u, (Value.string y.f0 :: valT y.f1 (.slice Ay y.f1.f5.length cy))[i]? = some u → w3.cell? ⟨g, k * 8 + i, none⟩ = some u) := ⟨fun i u hu => (hba.cell (p := ⟨g, k * 8 + i, none⟩) hgs).trans (HCE.out i u hu)⟩; have r1 : w3.cell? ⟨g, k * 8 + 1, none⟩ = some (.int .i64 y.f1.f0) := HC3_.out 1 _ rfl; have r2 : w3.cell? ⟨g, k * 8 + 2, none⟩ = some (.bool y.f1.f1) := HC3_.out 2 _ rfl; have r3 : w3.cell? ⟨g, k * 8 + 3, none⟩ = some (.int .i64 y.f1.f2) := HC3_.out 3 _ rfl; have r4 : w3.cell? ⟨g, k * 8 + 4, none⟩ = some (.string y.f1.f3) := HC3_.out 4 _ rfl; have r5 : w3.cell? ⟨g, k * 8 + 5, none⟩ = some (.string y.f1.f4.f0) := HC3_.out 5 _ rfl; have r6 : w3.cell? ⟨g, k * 8 + 6, none⟩ = some (.string y.f1.f4.f1) := HC3_.out 6 _ rfl; have r7 : w3.cell? ⟨g, k * 8 + 7, none⟩ = some (.slice Ay y.f1.f5.length cy) := HC3_.out 7 _ rfl; have rf : ∀ i, w3.frozen? ⟨g, i, none⟩ = false := (fun i => (hba.frozen (p := ⟨g, i, none⟩) hgs).trans (HFZ.out i)); have rb3 : w3.cell? ⟨w.heap.size, 3, none⟩ = some (.slice (some ⟨g, 0, none⟩) x.f2.length c3') := hcellT HT3.out.box 3 _ rfl; have rbs := lt_of_heapT HT3.out.box; clear hV hb hba))
      all_goals
        have HN3 := Aside0.mk (HT3.out.next y HY.out (wr.heap.size + 1) (by omega) (by omega) Ay A6 cy c6 HC3_.out HVV.out)
        clear HT3 HVV HC3_ HBD HSD HT r1 r2 r3 r4 r5 r6 r7 rf rb3 d3 d41 d42 d43 d44 d45 d46 d47
        go_wp2_with (fail)
        go_roundw
        case rel => exact ⟨k + 1, by omega, by go_num, ⟨HN3.out⟩⟩
        case measure => simp [intOf]; omega
    · obtain rfl : k = x.f2.length := by omega
      have hlt0 : decide ((x.f2.length : Int) < (x.f2.length : Int)) = false := decide_eq_false (by omega)
      have q0 : wr.cell? ⟨w.heap.size, 0, none⟩ = some (.string x.f0.f0) := hcellT hbx 0 _ rfl
      have q1 : wr.cell? ⟨w.heap.size, 1, none⟩ = some (.string x.f0.f1) := hcellT hbx 1 _ rfl
      have q2 : wr.cell? ⟨w.heap.size, 2, none⟩ = some (.slice A2' x.f1.length c2') := hcellT hbx 2 _ rfl
      have q3 : wr.cell? ⟨w.heap.size, 3, none⟩ = some (.slice A3' x.f2.length c3') := hcellT hbx 3 _ rfl
      have s0 : wr.cell? ⟨w.heap.size + 1, 0, none⟩ = some (.string ⟨#[]⟩) := hcellT hrs 0 _ rfl
      have s1 : wr.cell? ⟨w.heap.size + 1, 1, none⟩ = some (.string ⟨#[]⟩) := hcellT hrs 1 _ rfl
      have s2 : wr.cell? ⟨w.heap.size + 1, 2, none⟩ = some (.slice none 0 0) := hcellT hrs 2 _ rfl
      have s3 : wr.cell? ⟨w.heap.size + 1, 3, none⟩ = some (.slice none 0 0) := hcellT hrs 3 _ rfl
      have qf : ∀ i, wr.frozen? ⟨w.heap.size, i, none⟩ = false := fun i => blk_frozen hbx i
      have sf : ∀ i, wr.frozen? ⟨w.heap.size + 1, i, none⟩ = false := fun i => blk_frozen hrs i
      have HD := Aside0.mk (HT.out.done HC3.out)
      have HP := Aside0.mk HT.out.par
      have HB := Aside0.mk HT.out.bel
      have HRS := Aside0.mk hrs
      clear hbx hrs HT
      go_wp2
      (try simp only [Exit.inBlock, Exit.then])
      have hd := setCells_heapT (w.heap.size + 1) 32 (0, 0) [.string x.f0.f0, .string x.f0.f1, .slice A2' x.f1.length c2', .slice A3' x.f2.length c3'] 0 wr _ HRS.out (by simp)
      have hbl := HB.out.trans (below_cellsT (B := w.heap.size) (w.heap.size + 1) (by omega) [.string x.f0.f0, .string x.f0.f1, .slice A2' x.f1.length c2', .slice A3' x.f2.length c3'] 0 wr)
      have hv2 := Kd.V_step HP.out (w1 := wr.setCells (w.heap.size + 1) 0 [.string x.f0.f0, .string x.f0.f1, .slice A2' x.f1.length c2', .slice A3' x.f2.length c3']) (fun q hq _ => setCells_far _ _ _ _ _ (by omega))
      have hv3 := Kd.V_step HD.out (w1 := wr.setCells (w.heap.size + 1) 0 [.string x.f0.f0, .string x.f0.f1, .slice A2' x.f1.length c2', .slice A3' x.f2.length c3']) (fun q hq _ => setCells_far _ _ _ _ _ (by omega))
      simp only [World.setCells] at hd hbl hv2 hv3
      refine bodyPost_ret (results_one rfl _ _ (w.heap.size + 1) 32 _ (0, 0) _ rfl hd Tryz.underlying32 rfl (by kernel_rfl)) rfl ?_
      exact ⟨_, _, rfl, Kd.V_mono hv2 (fun q hq => by omega), Kd.V_mono hv3 (fun q hq => by omega), hbl⟩
/-- No row in an entity is too long. -/
def smE (x : S32) : Bool := decide (x.f1.length ≤ 1000000) && (decide (x.f2.length ≤ 1000000) && x.f2.all (fun a => smV a.f1))
theorem twinE_sm (x : S32) (h : smE x = true) : TwinE x := by
  simp only [smE, Bool.and_eq_true, decide_eq_true_eq, List.all_eq_true] at h
  exact twinE_any x h.1 h.2.1 h.2.2
/-- Behind the clone. -/
structure TwR (w wr : World) (xs : List S32) (A : Option Addr) (cap k : Nat) : Prop where
  bel : Below w.heap.size w wr
  row : (xs.length = 0 ∧ Kd.N k32 32 wr w.heap.size (fun q => w.heap.size ≤ q) (.slice A xs.length cap) xs) ∨ (0 < xs.length ∧ ∃ g, A = some ⟨g, 0, none⟩ ∧ Tw k32 32 wr w.heap.size g xs.length cap xs k (fun q => w.heap.size ≤ q) (fun q => q < w.heap.size))
theorem TwR.start {w w1 : World} {xs : List S32} {v : Value} (hcl : CloneOk k32 32 w (fun q => q < w.heap.size) xs v w1) (hb : Below w.heap.size w w1) : ∃ A c, v = .slice A xs.length c ∧ TwR w w1 xs A c 0 := by
  rcases hcl with ⟨rfl, hN⟩ | ⟨g, cap, rfl, hn, ht⟩
  · obtain ⟨A', c', rfl⟩ := Kd.N_slice hN
    exact ⟨A', c', rfl, hb, Or.inl ⟨rfl, hN⟩⟩
  · refine ⟨_, _, rfl, hb, ?_⟩
    obtain ⟨h5, inner, ho, hf⟩ := ht (fun q => w.heap.size ≤ q)
    have hT : Tw k32 32 w1 w.heap.size g xs.length cap xs 0 (fun q => w.heap.size ≤ q) (fun q => q < w.heap.size) := ⟨h5, inner, ho, fun j a hj => Kd.FK_mono (hf j a hj) (fun q hq => ⟨by have := hq.1; rw [if_neg (by omega)] at this ⊢; exact this.1, hq.2⟩)⟩
    by_cases h0 : 0 < xs.length
    · exact Or.inr ⟨h0, g, rfl, hT⟩
    · refine Or.inl ⟨by omega, ?_⟩
      have h1 : xs.length = 0 := by omega
      rw [← h1] at hT
      exact Kd.N_mono hT.to_N (fun q hq => by have := hT.block.1; rcases hq with hq | hq <;> omega)
theorem TwR.elem {w wr : World} {xs : List S32} {A : Option Addr} {cap k : Nat} (h : TwR w wr xs A cap k) (y : S32) (hy : xs[k]? = some y) : ∃ g A2 c2 A3 c3, A = some ⟨g, 0, none⟩ ∧ g < wr.heap.size ∧ w.heap.size ≤ g ∧ y.f1.length ≤ c2 ∧ k28.C wr A2 y.f1.length y.f1 ∧ y.f2.length ≤ c3 ∧ k67.C wr A3 y.f2.length y.f2 ∧ (∀ i u, [Value.string y.f0.f0, .string y.f0.f1, .slice A2 y.f1.length c2, .slice A3 y.f2.length c3][i]? = some u → wr.cell? ⟨g, k * 4 + i, none⟩ = some u) ∧ ∀ i, wr.frozen? ⟨g, i, none⟩ = false := by
  have hk := (List.getElem?_eq_some_iff.1 hy).1
  rcases h.row with ⟨h0, _⟩ | ⟨_, g, he, ht⟩
  · omega
  obtain ⟨cc, hF, hcell, hfr⟩ := ht.elem y hy
  obtain ⟨A2, c2, A3, c3, rfl, h1, h2, h3, h4⟩ := k32_open (Kd.FK_now hF)
  exact ⟨g, A2, c2, A3, c3, he, ht.block.2.1, ht.block.1, h1, h2, h3, h4, hcell, hfr⟩
theorem TwR.below {w wr w1 : World} {xs : List S32} {A : Option Addr} {cap k : Nat} (h : TwR w wr xs A cap k) (hb : Below wr.heap.size wr w1) : TwR w w1 xs A cap k :=
  ⟨below_step h.bel hb, h.row.imp (fun ⟨h0, hN⟩ => ⟨h0, Kd.N_below hN hb⟩) (fun ⟨h0, g, he, ht⟩ => ⟨h0, g, he, ht.below hb⟩)⟩
theorem TwR.next {w wr : World} {xs : List S32} {g cap k : Nat} (h : TwR w wr xs (some ⟨g, 0, none⟩) cap k) (y : S32) (hy : xs[k]? = some y) (b : Nat) (hb : w.heap.size ≤ b) (hgb : g < b) (A2 A3 B2 B3 : Option Addr) (c2 c3 d2 d3 : Nat) (hcell : ∀ i u, [Value.string y.f0.f0, .string y.f0.f1, .slice A2 y.f1.length c2, .slice A3 y.f2.length c3][i]? = some u → wr.cell? ⟨g, k * 4 + i, none⟩ = some u)
    (hV2 : Kd.V k28 28 wr w.heap.size (fun q => b ≤ q) (.slice B2 y.f1.length d2) y.f1) (hV3 : Kd.V k67 67 wr w.heap.size (fun q => b ≤ q) (.slice B3 y.f2.length d3) y.f2) :
    TwR w (wr.setCells g (k * 4) [Value.string y.f0.f0, .string y.f0.f1, .slice B2 y.f1.length d2, .slice B3 y.f2.length d3]) xs (some ⟨g, 0, none⟩) cap (k + 1) := by
  have hk := (List.getElem?_eq_some_iff.1 hy).1
  rcases h.row with ⟨h0, _⟩ | ⟨h0, g', he, ht⟩
  · omega
  obtain rfl : g = g' := by have h9 := congrArg (fun o : Option Addr => match o with | some (a : Addr) => a.block | none => 0) he; exact h9
  have hgw := ht.block.1
  refine ⟨h.bel.trans (below_cellsT g (by omega) _ _ wr), Or.inr ⟨h0, g, rfl, ?_⟩⟩
  obtain ⟨_, hl2, hF2⟩ := Kd.V_at hV2
  obtain ⟨_, hl3, hF3⟩ := Kd.V_at hV3
  have hFK : Kd.FK k32 (wr.setCells g (k * 4) [Value.string y.f0.f0, .string y.f0.f1, .slice B2 y.f1.length d2, .slice B3 y.f2.length d3]) (fun q => w.heap.size ≤ q ∧ q ≠ g) y [Value.string y.f0.f0, .string y.f0.f1, .slice B2 y.f1.length d2, .slice B3 y.f2.length d3] := Kd.FK_mono (Kd.FK_step (k32_mkF wr (fun q => b ≤ q) y hl2 hF2 hl3 hF3) (fun q hq _ => setCells_far g _ _ wr _ (by omega))) (fun q hq => ⟨by omega, by omega⟩)
  have hsz : k32.sz = 4 := rfl
  have hst := ht.store y hy 0 [Value.string y.f0.f0, .string y.f0.f1, .slice B2 y.f1.length d2, .slice B3 y.f2.length d3] [Value.string y.f0.f0, .string y.f0.f1, .slice A2 y.f1.length c2, .slice A3 y.f2.length c3] (by rw [hsz]; exact hcell) (by rw [hsz]; rfl) (by rw [hsz]; exact Nat.le_refl _)
  rw [hsz] at hst
  exact hst hFK
theorem TwR.done {w wr : World} {xs : List S32} {A : Option Addr} {cap : Nat} (h : TwR w wr xs A cap xs.length) : Kd.N k32 32 wr w.heap.size (fun q => w.heap.size ≤ q) (.slice A xs.length cap) xs := by
  rcases h.row with ⟨_, hN⟩ | ⟨_, g, rfl, ht⟩
  · exact hN
  · exact Kd.N_mono ht.to_N (fun q hq => by have := ht.block.1; rcases hq with hq | hq <;> omega)
end Go.Proofs.YtelibndkkokadaaGreat.GT
