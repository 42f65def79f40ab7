import Derived.Test.YtnjlggpidkbjcaaProg
import Derived.Below
import Derived.Deep.Draws
import Derived.Deep.AppendLies
import Derived.Maps.AppendAt
import Derived.OwnWalk
import Derived.Laws.BytesArg
import Derived.Laws.MakeOwn
import Derived.Laws.OwnMore
import Derived.Deep.OwnRows
import Derived.Tactics
import Derived.Lib.ConvBytes
import Derived.Laws.Slices
import Derived.WalkKit
import Derived.KernelRfl
import Derived.RowKit3
import Derived.Deep.LoopGhost
import Derived.Deep.QuietTactic
import Derived.BigQuiet
import Derived.WideLaws
import Derived.Deep.DeepCutAuto
import Derived.Deep.CutBlock
import Derived.Deep.RegionHeld3
import Derived.Laws.Rows
import Derived.Lib.AppendStr
import Derived.ArgAppend
import Derived.Laws.IdiomCopy
import Derived.OrdersHeld
import Derived.Laws.BitsLemmas
import Derived.RowKit
import Derived.Test.YtnjlggpidkbjcaaHandV
import Derived.Test.YtnjlggpidkbjcaaWWords
import Derived.Test.YtnjlggpidkbjcaaWLast
import Derived.Test.YtnjlggpidkbjcaaWTab
import Derived.Test.YtnjlggpidkbjcaaWFour
import Derived.Test.YtnjlggpidkbjcaaWQPut
import Derived.Test.YtnjlggpidkbjcaaWApart
import Derived.Test.YtnjlggpidkbjcaaWArr
import Derived.Test.YtnjlggpidkbjcaaWZeros
import Derived.Test.YtnjlggpidkbjcaaGV0
import Derived.Test.YtnjlggpidkbjcaaVInsF
namespace Go.Proofs.Ytnjlggpidkbjcaa.GV
open Go.RowKit Go.Proofs.YtnjlggpidkbjcaaW.PrintWords Go.Proofs.YtnjlggpidkbjcaaW.PrintLast Go.Proofs.Ytnjlggpidkbjcaa.HandV Go.Proofs.YtnjlggpidkbjcaaW.PrintMore
attribute [local go_sem] max2_int min2_int max_two min_two max_three min_three max_four min_four   -- for this text's walks alone
set_option maxRecDepth 100000 in
set_option maxHeartbeats 8000000 in
theorem insert_mid_room (g n cap i : Nat) (xs news : List Value) (base : Nat) (vb vc : Nat) (vcur : Array Value) (w : World) (hn : n ≤ 1000) (hi : i < n) (hroom : n + 1 ≤ cap) (hown : w.ownsRow base 31 7 (.slice (some ⟨g, 0, none⟩) n cap) n xs) (hne : vb ≠ g)
    (hvc : w.heap[vb]? = some (.cells vcur 31 (0, 0)))
    (hl : news.length = 7) (hnews : ∀ j u, news[j]? = some u → w.cell? (Addr.add ⟨vb, 0, none⟩ j) = some u) (h1 : ∀ u ∈ news, u.oneCell' = true) (h1x : ∀ u ∈ xs, u.oneCell' = true) :
    Calls Try.prog 35 #[.slice (some ⟨g, 0, none⟩) n cap, .int .i64 (i : Int), .slice (some ⟨vb, 0, none⟩) 1 vc] w fun e w' => ∃ v', e = .returned v' ∧ w'.ownsRow base 31 7 v' (n + 1) (xs.take (i * 7) ++ news ++ xs.drop (i * 7)) ∧ w.grownBy w' (some g) := by
  obtain ⟨i0, hi0, hz0, hzs, hzb⟩ := info_parts info31
  have hxl : xs.length = n * 7 := hown.1
  have hcs := hown.cells (g := g) rfl
  obtain ⟨cur, hbg, hH, hcm, hcl, htk⟩ : ∃ cur : Array Value, base ≤ g ∧ w.heap[g]? = some (.cells cur 31 (0, 0)) ∧ cap ≤ maxLen ∧ cur.size = cap * 7 ∧ cur.toList.take (n * 7) = xs := by
    rcases hown.2 with ⟨h, _⟩ | ⟨g, cap, cur, h, hbg, hh, hnc, hcm, hcs, htk⟩
    · cases h
    · injection h with h1 _ h3
      injection h1 with h1
      injection h1 with h1
      subst h1 h3
      exact ⟨cur, hbg, hh, hcm, hcs, htk⟩
  clear hown
  have hsz : (Try.prog.info? 31).map (·.size) = some 7 := by rw [hi0]; simp [hzs]
  have hN : ∀ j, j < (n + 1) * 7 → (w.cell? ⟨g, j, none⟩).isSome = true := fun j hj => by
    unfold World.cell?
    rw [hH]
    simp
    omega
  have hNf : ∀ j, w.frozen? ⟨g, j, none⟩ = false := fun j => by
    unfold World.frozen?
    rw [hH]
    simp
  have hVf : ∀ j, w.frozen? ⟨vb, j, none⟩ = false := fun j => by
    unfold World.frozen?
    rw [hvc]
    simp
  have hov : ∀ lb cb, (callFunc 46 #[.slice (some ⟨vb, 0, none⟩) 1 vc, .slice (some ⟨g, (i + 1) * 7, none⟩) lb cb]).run Try.prog w = .ok (.value (.bool false)) w := fun lb cb => by
    rw [run_callFunc_extern Try.func46 (by kernel_rfl) (by kernel_rfl) (by kernel_rfl) (e := Extern.SlicesOverlaps.overlaps #[29, 29] #[4]) (by kernel_rfl),
      Lib.run_overlaps_apart w 29 4 31 Try.underlying29 7 (fun w => by first | exact run_sizeOf hi0 hzs | simp [sizeOf, typeInfo, hi0, hzs]) ⟨vb, 0, none⟩ ⟨g, (i + 1) * 7, none⟩ 1 vc lb cb hne 31 31 vcur.size (cap * 7) (by unfold World.shape?; rw [hvc]) (by unfold World.shape?; rw [hH]; simp [hcl]) (by omega) (hVf 0) (hVf _)]
    rfl
  have hm1 : Nat.min 1 (n + 1 - i) = 1 := by simp only [Nat.min_def]; split <;> omega
  have hm2 : Nat.min (n + 1 - i) (n - i) = n - i := by simp only [Nat.min_def]; split <;> omega
  have hdl : (xs.drop (i * 7)).length = n * 7 - i * 7 := by rw [List.length_drop, hxl]
  have hcpA : ∀ (W : World), (∀ x, W.cell? x = w.cell? x) → (∀ x, W.frozen? x = w.frozen? x) → ∀ ty dc sc, (Builtin.copy_ #[29, 29] ty #[.slice (some ⟨g, (i + 1) * 7, none⟩) (n - i) dc, .slice (some ⟨g, i * 7, none⟩) (n + 1 - i) sc]).run Try.prog W = .ok (goInt ((n - i : Nat) : Int)) (W.setCells g ((i + 1) * 7) (xs.drop (i * 7))) := fun W hWc hWf ty dc sc => by
    have := run_copy_wide (P := Try.prog) W 29 29 ty 31 7 g ((i + 1) * 7) (n - i) dc ⟨g, i * 7, none⟩ (n + 1 - i) sc (xs.drop (i * 7)) Try.underlying29 hsz (by rw [hdl, hm2]; omega)
      (fun j v hj => by
        rw [Addr.add_lit, hWc]
        have := hcs (i * 7 + j) v (by rwa [List.getElem?_drop] at hj)
        rwa [Addr.add_lit, Nat.zero_add] at this)
      (fun j hj => by rw [hWc]; exact hN _ (by omega))
      (fun j hj => by rw [hWf]; exact hNf _) (fun v hv => h1x v (List.mem_of_mem_drop hv))
    rw [hm2] at this
    exact this
  have hcpB : ∀ (W : World), (∀ x, W.cell? x = (w.drew.setCells g ((i + 1) * 7) (xs.drop (i * 7))).cell? x) → (∀ x, W.frozen? x = (w.drew.setCells g ((i + 1) * 7) (xs.drop (i * 7))).frozen? x) → ∀ ty dc, (Builtin.copy_ #[29, 29] ty #[.slice (some ⟨g, i * 7, none⟩) (n + 1 - i) dc, .slice (some ⟨vb, 0, none⟩) 1 vc]).run Try.prog W = .ok (goInt 1) (W.setCells g (i * 7) news) := fun W hWc hWf ty dc => by
    have := run_copy_wide (P := Try.prog) W 29 29 ty 31 7 g (i * 7) (n + 1 - i) dc ⟨vb, 0, none⟩ 1 vc news Try.underlying29 hsz (by rw [hm1]; omega)
      (fun j v hj => by
        rw [Addr.add_lit, hWc, World.cell?_setCells_out _ _ _ _ _ (fun h _ => absurd h hne)]
        have := hnews j v hj
        rw [Addr.add_lit] at this
        exact this)
      (fun j hj => by
        rw [hWc]
        exact isSome_setCells g (xs.drop (i * 7)) ((i + 1) * 7) w.drew (fun t ht => hN ((i + 1) * 7 + t) (by rw [hdl] at ht; omega)) (i * 7 + j) (hN (i * 7 + j) (by omega)))
      (fun j hj => by rw [hWf, World.frozen?_setCells]; exact hNf _) h1
    rwa [hm1] at this
  refine (insert_room_walk g n cap i vb vc w hi hn hroom (xs.drop (i * 7)) news hov hcpA hcpB).mono ?_
  rintro e w' ⟨rfl, rfl⟩
  have hlL : cur.toList.length = cap * 7 := by rw [Array.length_toList]; exact hcl
  have hH' : w.drew.heap[g]? = some (.cells cur.toList.toArray 31 (0, 0)) := hH
  have k1 := setCells_heap g 31 (0, 0) (xs.drop (i * 7)) ((i + 1) * 7) w.drew _ hH' (by rw [hdl, hlL]; omega)
  have k2 := setCells_heap g 31 (0, 0) news (i * 7) _ _ k1 (by simp only [List.length_append, List.length_take, List.length_drop, hlL, hl, hxl]; omega)
  rw [hl] at k2
  have hrow := ins_row cur.toList xs news (n * 7) (i * 7) htk (by omega) hl (by omega)
  rw [show i * 7 + 7 = (i + 1) * 7 by omega] at hrow
  rw [hdl, show i * 7 + 7 = (i + 1) * 7 by omega] at k2
  have hs : ∀ (b : Nat) (vs : List Value) (o : Nat) (w : World), (w.setCells b o vs).heap.size = w.heap.size := by
    intro b vs
    induction vs with
    | nil => intro o w; rfl
    | cons v r ih => intro o w; rw [World.setCells, ih]; simp [World.setCell]
  have ht : ∀ (b : Nat) (vs : List Value) (o : Nat) (w : World), (w.setCells b o vs).tape = w.tape := by
    intro b vs
    induction vs with
    | nil => intro o w; rfl
    | cons v r ih => intro o w; rw [World.setCells, ih]; rfl
  refine ⟨_, rfl, ⟨by rw [List.length_append, List.length_append, List.length_take, hdl]; omega, .inr ⟨g, cap, _, rfl, hbg, k2, hroom, hcm, ?_, ?_⟩⟩, ⟨?_, ?_, ?_, ?_, ?_⟩⟩
  · simp only [List.size_toArray, List.length_append, List.length_take, List.length_drop, hlL, hl, hxl]
    omega
  · rw [show (n + 1) * 7 = n * 7 + 7 by omega]
    exact hrow
  · rw [World.os_setCells, World.os_setCells]
    rfl
  · rw [ht, ht]
    rfl
  · rw [World.output_setCells, World.output_setCells]
    rfl
  · rw [hs, hs]
    exact Nat.le_refl _
  · intro k hk hkg
    have hkg2 : k ≠ g := fun h => hkg (by rw [h])
    rw [World.heap_setCells_other _ _ _ _ (by rw [hs]; exact hk) hkg2, World.heap_setCells_other _ _ _ _ (by exact hk) hkg2]
    rfl
end Go.Proofs.Ytnjlggpidkbjcaa.GV
