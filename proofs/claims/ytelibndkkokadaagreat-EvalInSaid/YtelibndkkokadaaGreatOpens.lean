import Derived.Test.YtelibndkkokadaaGreatWWords
import Derived.ChangeArms
import Derived.ChangeSlices
import Derived.DataReads
import Derived.WideShapes
/-! What the reader of a call's arguments takes for data of a type is of a kind of the printer's (Kd): whole numbers, bools, texts, rows, structs, structs nested in themselves. With it a law's row over such parameters can be opened. -/
namespace Go.Proofs.YtelibndkkokadaaGreat.Opens
open Go.RowKit Go.Proofs.YtelibndkkokadaaGreatW.PrintWords
/-- Whatever is read at a type, with so much fuel, is of the kind, and as it should be. -/
def At {α : Type} (P : Program) (k : Kd α) (Ok : α → Prop) (t : TypeId) (n : Nat) : Prop :=
  ∀ (H : Type) (enc : TypeId × Value → H) (w : World) (cs : List Value) (x : DataW H × List MemPlace), DataW.trod enc P w 0 (fun _ => true) true n t cs = some x → ∃ a, k.K w a cs ∧ Ok a
theorem at_zero {α : Type} {P : Program} {k : Kd α} {Ok : α → Prop} {t : TypeId} : At P k Ok t 0 := by
  intro H enc w cs x h
  simp [DataW.trod] at h
theorem at_int {P : Program} {i : IntKind} {t : TypeId} (ht : P.underlying t = some (.int i)) (n : Nat) : At P (Kd.int i) (fun z => (Lit.int i z).wf = true) t n := by
  intro H enc w cs x h
  obtain ⟨z, rfl, _, hz⟩ := DataW.trod_int ht h
  exact ⟨z, rfl, hz⟩
theorem at_string {P : Program} {t : TypeId} (ht : P.underlying t = some .string) (n : Nat) : At P Kd.string (fun s => s.size ≤ maxLen) t n := by
  intro H enc w cs x h
  obtain ⟨s, rfl, _, hs⟩ := DataW.trod_string ht h
  exact ⟨s, rfl, hs⟩
theorem at_imp {α : Type} {P : Program} {k k' : Kd α} {Ok Ok' : α → Prop} {t : TypeId} {n : Nat} (h : At P k Ok t n) (hk : ∀ w a cs, k.K w a cs → k'.K w a cs) (ho : ∀ a, Ok a → Ok' a) : At P k' Ok' t n := by
  intro H enc w cs x hx
  obtain ⟨a, h1, h2⟩ := h H enc w cs x hx
  exact ⟨a, hk w a cs h1, ho a h2⟩
/-- A finite choice along a list. -/
theorem choose {α β : Type} (R : Nat → α → β → Prop) : ∀ (l : List β) (o : Nat), (∀ i b, l[i]? = some b → ∃ a, R (o + i) a b) → ∃ as : List α, as.length = l.length ∧ ∀ i a b, as[i]? = some a → l[i]? = some b → R (o + i) a b
  | [], _, _ => ⟨[], rfl, fun i a b h _ => by simp at h⟩
  | b :: l, o, h => by
    obtain ⟨a, ha⟩ := h 0 b rfl
    obtain ⟨as, h1, h2⟩ := choose R l (o + 1) (fun i c hc => by
      have := h (i + 1) c hc
      rwa [show o + (i + 1) = o + 1 + i by omega] at this)
    refine ⟨a :: as, by simp [h1], ?_⟩
    intro i x y hx hy
    cases i with
    | zero =>
      simp only [List.getElem?_cons_zero, Option.some.injEq] at hx hy
      subst hx hy
      exact ha
    | succ i =>
      simp only [List.getElem?_cons_succ] at hx hy
      have := h2 i x y hx hy
      rwa [show o + 1 + i = o + (i + 1) by omega] at this
theorem at_slice {α : Type} {P : Program} {d : Kd α} {Ok : α → Prop} {t e : TypeId} (q : Nat) {n : Nat} (ht : P.underlying t = some (.slice e)) (hsz : d.sz = P.cellsOf e) (hd : At P d Ok e n) :
    At P (Kd.slice q d) (fun xs => xs.length ≤ maxLen ∧ ∀ x ∈ xs, Ok x) t (n + 1) := by
  intro H enc w cs x h
  rcases DataW.trod_slice ht h with ⟨rfl, _⟩ | ⟨a, len, cap, elems, rest, m, hm, rfl, _, hb, hl, hc, hlen, hel, _, _⟩
  · refine ⟨[], ⟨none, 0, rfl, Nat.le_refl _, rfl, Nat.zero_le _, fun h => absurd h (Nat.lt_irrefl 0)⟩, Nat.zero_le _, fun _ h => by cases h⟩
  · obtain rfl : m = n := by omega
    obtain ⟨as, h1, h2⟩ := choose (α := α) (fun i a' y => ∃ cs', w.cells? 0 (a.add (i * P.cellsOf e)) (P.cellsOf e) = some cs' ∧ d.K w a' cs' ∧ Ok a') elems 0 (by
      intro i y hy
      have hi : i < len := by
        rw [← hlen]
        exact (List.getElem?_eq_some_iff.1 hy).1
      have h3 := hel i hi
      rw [hy] at h3
      obtain ⟨cs', h4, h5⟩ := Option.bind_eq_some_iff.1 h3
      obtain ⟨a', h6, h7⟩ := hd H enc w cs' y h5
      exact ⟨a', cs', by rw [Nat.zero_add]; exact h4, h6, h7⟩)
    have hal : as.length = len := by rw [h1, hlen]
    refine ⟨as, ⟨some a, cap, by rw [hal], by omega, rfl, ?_, fun _ => ⟨a, rfl, ?_⟩⟩, by omega, ?_⟩
    · unfold maxLen at hc
      omega
    · intro j p hp
      have hj : j < elems.length := by rw [← h1]; exact (List.getElem?_eq_some_iff.1 hp).1
      obtain ⟨cs', h4, h5, _⟩ := h2 j p _ hp (List.getElem?_eq_getElem hj)
      rw [Nat.zero_add] at h4
      obtain ⟨_, g1, g2⟩ := World.cells?_some h4
      refine ⟨cs', d.K_len h5, h5, ?_⟩
      intro i u hu
      have hi : i < P.cellsOf e := by rw [← g1]; exact (List.getElem?_eq_some_iff.1 hu).1
      have g3 := g2 i hi
      rw [hu] at g3
      rw [hsz, ← g3]
      congr 1
      rw [Addr.add_add]
    · intro p hp
      obtain ⟨j, hj⟩ := List.getElem?_of_mem hp
      have hj2 : j < elems.length := by rw [← h1]; exact (List.getElem?_eq_some_iff.1 hj).1
      obtain ⟨_, _, _, h6⟩ := h2 j p _ hj (List.getElem?_eq_getElem hj2)
      exact h6
theorem at_slice_any {α : Type} {P : Program} {d : Kd α} {Ok : α → Prop} {t e : TypeId} (q : Nat) (ht : P.underlying t = some (.slice e)) (hsz : d.sz = P.cellsOf e) (hd : ∀ n, At P d Ok e n) (n : Nat) :
    At P (Kd.slice q d) (fun xs => xs.length ≤ maxLen ∧ ∀ x ∈ xs, Ok x) t n := by
  cases n with
  | zero => exact at_zero
  | succ m => exact at_slice q ht hsz (hd m)
/-- A struct's cells, field by field: what stands at an offset is of a kind. -/
def Seg {α : Type} (k : Kd α) (w : World) (a : α) (cs : List Value) (o : Nat) : Prop := k.K w a ((cs.drop o).take k.sz)
theorem seg_pair {α β : Type} {j : Kd α} {k : Kd β} {w : World} {a : α} {b : β} {cs : List Value} {o : Nat} (h1 : Seg j w a cs o) (h2 : Seg k w b cs (o + j.sz)) : Seg (Kd.pair j k) w (a, b) cs o := by
  refine ⟨_, _, ?_, h1, h2⟩
  show (cs.drop o).take (j.sz + k.sz) = _
  rw [List.take_add, List.drop_drop]
theorem seg_whole {α : Type} {k : Kd α} {w : World} {a : α} {cs : List Value} (h : Seg k w a cs 0) (hl : cs.length = k.sz) : k.K w a cs := by
  unfold Seg at h
  rw [List.drop_zero, List.take_of_length_le (by omega)] at h
  exact h
/-- A field of what was read. -/
theorem seg_field {α : Type} {P : Program} {k : Kd α} {Ok : α → Prop} {n : Nat} {H : Type} {enc : TypeId × Value → H} {w : World} {cs : List Value} {xs : List (DataW H × List MemPlace)} {fs : Array Field} {i : Nat} {f : Field}
    (hf : ∀ (i : Nat) (f : Field), fs[i]? = some f → DataW.trod enc P w 0 (fun _ => true) true n f.type ((cs.drop f.offset).take (P.cellsOf f.type)) = xs[i]?) (hl : xs.length = fs.size)
    (hi : fs[i]? = some f) (hsz : k.sz = P.cellsOf f.type) (h : At P k Ok f.type n) : ∃ a, Seg k w a cs f.offset ∧ Ok a := by
  have h1 := hf i f hi
  have hlt : i < xs.length := by
    rw [hl]
    exact (Array.getElem?_eq_some_iff.1 hi).1
  rw [List.getElem?_eq_getElem hlt] at h1
  obtain ⟨a, h2, h3⟩ := h H enc w _ _ h1
  refine ⟨a, ?_, h3⟩
  unfold Seg
  rw [hsz]
  exact h2
/-- A row of such things handed to the call. -/
theorem row_slice {α : Type} {P : Program} {k : Kd α} {Ok : α → Prop} {t e : TypeId} {r : Reach} {b0 : Nat} {H : Type} {enc : TypeId × Value → H} {w : World} {v : Value} {d : DataW H} {p : List MemPlace}
    (ht : P.underlying t = some (.slice e)) (hsz : k.sz = P.cellsOf e) (hat : ∀ n, At P k Ok e n) (hv : Value.okWide P w r b0 t v) (h : DataW.Trod enc P w 0 (fun _ => true) true t v d p) :
    ∃ (A : Option Addr) (c : Nat) (xs : List α), v = .slice A xs.length c ∧ xs.length ≤ c ∧ k.C w A xs.length xs ∧ xs.length ≤ maxLen ∧ ∀ x ∈ xs, Ok x := by
  obtain ⟨a, len, cap, rfl⟩ := WideShapes.okWide_slice ht hv
  obtain ⟨fuel, hf⟩ := h
  obtain ⟨xs, ⟨A, c, h1, h2, h3⟩, h4, h5⟩ := at_slice_any 0 ht hsz hat fuel H enc w _ _ hf
  refine ⟨A, c, xs, ?_, h2, h3, h4, h5⟩
  simpa [Value.cells] using h1
end Go.Proofs.YtelibndkkokadaaGreat.Opens
