import Derived.Test.YtnjlggpidkbjcaaProg
import Derived.Below
import Derived.Deep.Draws
import Derived.Deep.AppendLies
import Derived.Maps.AppendAt
import Derived.OwnWalk
import Derived.Laws.BytesArg
import Derived.Laws.MakeOwn
import Derived.Laws.OwnMore
import Derived.Deep.OwnRows
import Derived.Tactics
import Derived.Lib.ConvBytes
import Derived.Laws.Slices
import Derived.WalkKit
import Derived.KernelRfl
import Derived.RowKit3
import Derived.Deep.LoopGhost
import Derived.Deep.QuietTactic
import Derived.BigQuiet
import Derived.WideLaws
import Derived.Deep.DeepCutAuto
import Derived.Deep.CutBlock
import Derived.Deep.RegionHeld3
import Derived.Laws.Rows
import Derived.Lib.AppendStr
import Derived.ArgAppend
import Derived.Laws.IdiomCopy
import Derived.OrdersHeld
import Derived.Laws.BitsLemmas
import Derived.RowKit
import Derived.Test.YtnjlggpidkbjcaaHandV
import Derived.Test.YtnjlggpidkbjcaaWWords
import Derived.Test.YtnjlggpidkbjcaaWLast
import Derived.Test.YtnjlggpidkbjcaaWTab
import Derived.Test.YtnjlggpidkbjcaaWFour
import Derived.Test.YtnjlggpidkbjcaaWQPut
import Derived.Test.YtnjlggpidkbjcaaWApart
import Derived.Test.YtnjlggpidkbjcaaWArr
import Derived.Test.YtnjlggpidkbjcaaWZeros
import Derived.Test.YtnjlggpidkbjcaaGV0
import Derived.Test.YtnjlggpidkbjcaaVInsR
namespace Go.Proofs.Ytnjlggpidkbjcaa.GV
open Go.RowKit Go.Proofs.YtnjlggpidkbjcaaW.PrintWords Go.Proofs.YtnjlggpidkbjcaaW.PrintLast Go.Proofs.Ytnjlggpidkbjcaa.HandV Go.Proofs.YtnjlggpidkbjcaaW.PrintMore
attribute [local go_sem] max2_int min2_int max_two min_two max_three min_three max_four min_four   -- for this text's walks alone
set_option maxRecDepth 100000 in
set_option maxHeartbeats 8000000 in
theorem insert_mid_full (g n cap i : Nat) (xs news : List Value) (base : Nat) (vb vc : Nat) (w : World) (hn : n ≤ 1000) (hi : i < n) (hfull : cap < n + 1) (hown : w.ownsRow base 31 7 (.slice (some ⟨g, 0, none⟩) n cap) n xs) (hbase : base ≤ w.heap.size)
    (hl : news.length = 7) (hnews : ∀ j u, news[j]? = some u → w.cell? (Addr.add ⟨vb, 0, none⟩ j) = some u) (h1 : ∀ u ∈ news, u.oneCell' = true) (h1x : ∀ u ∈ xs, u.oneCell' = true) :
    Calls Try.prog 35 #[.slice (some ⟨g, 0, none⟩) n cap, .int .i64 (i : Int), .slice (some ⟨vb, 0, none⟩) 1 vc] w fun e w' => ∃ v', e = .returned v' ∧ w'.ownsRow base 31 7 v' (n + 1) (xs.take (i * 7) ++ news ++ xs.drop (i * 7)) ∧ w.grownBy w' (some g) := by
  obtain ⟨i0, hi0, hz0, hzs, hzb⟩ := info_parts info31
  have hxl : xs.length = n * 7 := hown.1
  have hcs := hown.cells (g := g) rfl
  have hnc : n ≤ cap := by
    rcases hown.2 with ⟨h, _⟩ | ⟨g, cap, cur, h, hbg, hh, hnc, hcm, hcs, htk⟩
    · cases h
    · injection h with _ _ h3
      omega
  have hbw : g < w.heap.size := (hown.lt g rfl).2
  have hvw : vb < w.heap.size := by
    have := hnews 0 _ (List.getElem?_eq_getElem (by omega))
    simpa [Addr.add] using World.block_lt_of_cell? _ _ this
  clear hown
  have hsz : (Try.prog.info? 31).map (·.size) = some 7 := by rw [hi0]; simp [hzs]
  have hik : i + (n + 1 - i) = n + 1 := by omega
  have hold : (Builtin.firstCells i0.size i (.slice (some ⟨g, 0, none⟩) i cap)).run Try.prog w.drew = .ok (xs.take (i * 7)).toArray w.drew := by
    rw [hzs]
    exact run_firstCells_some w.drew 7 i ⟨g, 0, none⟩ i cap (xs.take (i * 7)) (by rw [List.length_take]; omega) (fun j v hj => by
      rw [List.getElem?_take] at hj
      split at hj
      · exact hcs j v hj
      · cases hj)
  have hrz := fun ty => Lib.run_append_grow_zeros w 29 3 ty 31 i0 _ .i64 .i64 Try.underlying29 Try.underlying3 hi0 hz0 (some ⟨g, 0, none⟩) i cap (xs.take (i * 7)) hold (n + 1 - i) (by omega) (by rw [hzs]; omega) (by omega) (by omega) (by rw [hzb]; omega) (by rw [hzb, hik]; exact growslice_fits (by omega) (by omega))
  rw [hik] at hrz
  have hGn : n + 1 ≤ grownCap w (n + 1) cap 31 := grownCap_ge w _ _ _
  have hGm : grownCap w (n + 1) cap 31 ≤ maxLen := grownCap_le_maxLen w (n + 1) cap 31 (by unfold maxLen; omega)
  generalize grownCap w (n + 1) cap 31 = G at hrz hGn hGm
  obtain ⟨ROW, hROW⟩ : ∃ ROW : Array Value, ROW = (xs.take (i * 7)).toArray ++ Builtin.zeroCells (Value.agg #[(.int .i64 0), (.bool false), (.int .i64 0), (.string ⟨#[]⟩), (.string ⟨#[]⟩), (.string ⟨#[]⟩), (.slice none 0 0)]).cells (n + 1 - i) ++ Builtin.zeroCells (Value.agg #[(.int .i64 0), (.bool false), (.int .i64 0), (.string ⟨#[]⟩), (.string ⟨#[]⟩), (.string ⟨#[]⟩), (.slice none 0 0)]).cells (G - (n + 1)) := ⟨_, rfl⟩
  rw [← hROW] at hrz
  have hRl : ROW.size = G * 7 := by
    rw [hROW, Array.size_append, Array.size_append, size_zeroCells, size_zeroCells, List.size_toArray, List.length_take, Nat.min_eq_left (by omega)]
    change i * 7 + (n + 1 - i) * 7 + (G - (n + 1)) * 7 = G * 7
    omega
  have hRt : ROW.toList.take (i * 7) = xs.take (i * 7) := by
    rw [hROW, Array.toList_append, Array.toList_append, List.append_assoc]
    exact List.take_left' (by rw [List.length_take]; omega)
  clear hROW hik hold
  have hRtl : ROW.toList.length = G * 7 := by rw [Array.length_toList]; exact hRl
  have hH : (w.drew.alloc (.cells ROW 31)).heap[w.heap.size]? = some (.cells ROW.toList.toArray 31 (0, 0)) := heap_alloc_new w.drew _
  have hHo : ∀ k, k < w.heap.size → (w.drew.alloc (.cells ROW 31)).heap[k]? = w.heap[k]? := fun k hk => by first | exact heap_alloc_old w.drew _ hk | exact heap_alloc_old w.drew _ k hk
  have hHs : w.heap.size < (w.drew.alloc (.cells ROW 31)).heap.size := by simp
  have hOs : (w.drew.alloc (.cells ROW 31)).os = w.os := rfl
  have hTa : (w.drew.alloc (.cells ROW 31)).tape = w.tape := rfl
  have hOu : (w.drew.alloc (.cells ROW 31)).output = w.output := rfl
  generalize w.drew.alloc (.cells ROW 31) = W1 at hrz hH hHo hHs hOs hTa hOu
  have hN : ∀ j, j < (n + 1) * 7 → (W1.cell? ⟨w.heap.size, j, none⟩).isSome = true := fun j hj => by
    unfold World.cell?
    rw [hH]
    simp
    omega
  have hNf : ∀ j, W1.frozen? ⟨w.heap.size, j, none⟩ = false := fun j => by
    unfold World.frozen?
    rw [hH]
    simp
  have hOb : ∀ k j v, k < w.heap.size → w.cell? ⟨k, j, none⟩ = some v → W1.cell? ⟨k, j, none⟩ = some v := fun k j v hk h => (World.cell?_of_block (a := ⟨k, j, none⟩) (hHo k hk)).trans h
  have hm1 : Nat.min 1 (n + 1 - i) = 1 := by simp only [Nat.min_def]; split <;> omega
  have hm2 : Nat.min (n - i) (n - i) = n - i := by simp only [Nat.min_def]; split <;> omega
  have hcpA : ∀ (W : World), (∀ x, W.cell? x = W1.cell? x) → (∀ x, W.frozen? x = W1.frozen? x) → ∀ ty dc, (Builtin.copy_ #[29, 29] ty #[.slice (some ⟨w.heap.size, i * 7, none⟩) (n + 1 - i) dc, .slice (some ⟨vb, 0, none⟩) 1 vc]).run Try.prog W = .ok (goInt 1) (W.setCells w.heap.size (i * 7) news) := fun W hWc hWf ty dc => by
    have := run_copy_wide (P := Try.prog) W 29 29 ty 31 7 w.heap.size (i * 7) (n + 1 - i) dc ⟨vb, 0, none⟩ 1 vc news Try.underlying29 hsz (by rw [hm1]; omega)
      (fun j v hj => by rw [Addr.add_lit, hWc]; exact hOb _ _ v hvw (by have := hnews j v hj; rwa [Addr.add_lit] at this))
      (fun j hj => by rw [hWc]; exact hN _ (by omega)) (fun j hj => by rw [hWf]; exact hNf _) h1
    rwa [hm1] at this
  have hdl : (xs.drop (i * 7)).length = n * 7 - i * 7 := by rw [List.length_drop, hxl]
  have hbN : g ≠ w.heap.size := by omega
  have hcpB : ∀ (W : World), (∀ x, W.cell? x = (W1.setCells w.heap.size (i * 7) news).cell? x) → (∀ x, W.frozen? x = (W1.setCells w.heap.size (i * 7) news).frozen? x) → ∀ ty dc sc, (Builtin.copy_ #[29, 29] ty #[.slice (some ⟨w.heap.size, (i + 1) * 7, none⟩) (n - i) dc, .slice (some ⟨g, i * 7, none⟩) (n - i) sc]).run Try.prog W = .ok (goInt ((n - i : Nat) : Int)) (W.setCells w.heap.size ((i + 1) * 7) (xs.drop (i * 7))) := fun W hWc hWf ty dc sc => by
    have := run_copy_wide (P := Try.prog) W 29 29 ty 31 7 w.heap.size ((i + 1) * 7) (n - i) dc ⟨g, i * 7, none⟩ (n - i) sc (xs.drop (i * 7)) Try.underlying29 hsz (by rw [hdl, hm2]; omega)
      (fun j v hj => by
        rw [Addr.add_lit, hWc, World.cell?_setCells_out _ _ _ _ _ (fun h _ => absurd h hbN)]
        exact hOb _ _ v hbw (by have := hcs (i * 7 + j) v (by rwa [List.getElem?_drop] at hj); rwa [Addr.add_lit, Nat.zero_add] at this))
      (fun j hj => by rw [hWc]; exact isSome_setCells _ _ _ _ (fun t ht => hN _ (by omega)) _ (hN _ (by omega)))
      (fun j hj => by rw [hWf, World.frozen?_setCells]; exact hNf _) (fun v hv => h1x v (List.mem_of_mem_drop hv))
    rw [hm2] at this
    exact this
  refine (insert_full_walk g n cap i G w.heap.size vb vc w W1 hi hn hnc hfull hGn (xs.drop (i * 7)) news hrz hcpA hcpB).mono ?_
  rintro e w' ⟨rfl, rfl⟩
  have k1 := setCells_heap w.heap.size 31 (0, 0) news (i * 7) W1 _ hH (by rw [hRtl, hl]; omega)
  have k2 := setCells_heap w.heap.size 31 (0, 0) (xs.drop (i * 7)) ((i + 1) * 7) (W1.setCells w.heap.size (i * 7) news).drew _ k1 (by simp only [List.length_append, List.length_take, List.length_drop, hRtl, hl, hxl]; omega)
  rw [hl] at k1 k2
  have hrow := ins_row2 ROW.toList xs news (n * 7) (i * 7) hxl hRt (by omega) hl
  rw [show i * 7 + 7 = (i + 1) * 7 by omega] at hrow
  rw [hdl, show i * 7 + 7 = (i + 1) * 7 by omega] at k2
  refine ⟨_, rfl, ⟨by rw [List.length_append, List.length_append, List.length_take, hdl]; omega, .inr ⟨w.heap.size, G, _, rfl, hbase, k2, hGn, hGm, ?_, ?_⟩⟩, ⟨?_, ?_, ?_, ?_, ?_⟩⟩
  · simp only [List.size_toArray, List.length_append, List.length_take, List.length_drop, hRtl, hl, hxl]
    omega
  · rw [show (n + 1) * 7 = n * 7 + 7 by omega]
    exact hrow
  · rw [World.os_setCells]
    exact (World.os_setCells _ _ _ _).trans hOs
  · have ht : ∀ (b : Nat) (vs : List Value) (o : Nat) (w : World), (w.setCells b o vs).tape = w.tape := by
      intro b vs
      induction vs with
      | nil => intro o w; rfl
      | cons v r ih => intro o w; rw [World.setCells, ih]; rfl
    rw [ht]
    exact (ht _ _ _ _).trans hTa
  · rw [World.output_setCells]
    exact (World.output_setCells _ _ _ _).trans hOu
  · have hs : ∀ (b : Nat) (vs : List Value) (o : Nat) (w : World), (w.setCells b o vs).heap.size = w.heap.size := by
      intro b vs
      induction vs with
      | nil => intro o w; rfl
      | cons v r ih => intro o w; rw [World.setCells, ih]; simp [World.setCell]
    rw [hs]
    show _ ≤ (W1.setCells _ _ _).heap.size
    rw [hs]
    omega
  · intro k hk _
    have hs : ∀ (b : Nat) (vs : List Value) (o : Nat) (w : World), (w.setCells b o vs).heap.size = w.heap.size := by
      intro b vs
      induction vs with
      | nil => intro o w; rfl
      | cons v r ih => intro o w; rw [World.setCells, ih]; simp [World.setCell]
    rw [World.heap_setCells_other _ _ _ _ (by show k < (W1.setCells _ _ _).heap.size; rw [hs]; omega) (by omega)]
    exact (World.heap_setCells_other _ _ _ _ (by omega) (by omega)).trans (hHo k hk)
end Go.Proofs.Ytnjlggpidkbjcaa.GV
