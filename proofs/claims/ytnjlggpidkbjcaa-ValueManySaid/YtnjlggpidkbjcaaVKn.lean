import Derived.Test.YtnjlggpidkbjcaaProg
import Derived.Below
import Derived.Deep.Draws
import Derived.Deep.AppendLies
import Derived.Maps.AppendAt
import Derived.OwnWalk
import Derived.Laws.BytesArg
import Derived.Laws.MakeOwn
import Derived.Laws.OwnMore
import Derived.Deep.OwnRows
import Derived.Tactics
import Derived.Lib.ConvBytes
import Derived.Laws.Slices
import Derived.WalkKit
import Derived.KernelRfl
import Derived.RowKit3
import Derived.Deep.LoopGhost
import Derived.Deep.QuietTactic
import Derived.BigQuiet
import Derived.WideLaws
import Derived.Deep.DeepCutAuto
import Derived.Deep.CutBlock
import Derived.Deep.RegionHeld3
import Derived.Laws.Rows
import Derived.Lib.AppendStr
import Derived.ArgAppend
import Derived.Laws.IdiomCopy
import Derived.OrdersHeld
import Derived.Laws.BitsLemmas
import Derived.RowKit
import Derived.Test.YtnjlggpidkbjcaaHandV
import Derived.Test.YtnjlggpidkbjcaaWWords
import Derived.Test.YtnjlggpidkbjcaaWLast
import Derived.Test.YtnjlggpidkbjcaaWTab
import Derived.Test.YtnjlggpidkbjcaaWFour
import Derived.Test.YtnjlggpidkbjcaaWQPut
import Derived.Test.YtnjlggpidkbjcaaWApart
import Derived.Test.YtnjlggpidkbjcaaWArr
import Derived.Test.YtnjlggpidkbjcaaWZeros
import Derived.Test.YtnjlggpidkbjcaaGV0
import Derived.Test.YtnjlggpidkbjcaaVTxt
namespace Go.Proofs.Ytnjlggpidkbjcaa.GV
open Go.RowKit Go.Proofs.YtnjlggpidkbjcaaW.PrintWords Go.Proofs.YtnjlggpidkbjcaaW.PrintLast Go.Proofs.Ytnjlggpidkbjcaa.HandV Go.Proofs.YtnjlggpidkbjcaaW.PrintMore
attribute [local go_sem] max2_int min2_int max_two min_two max_three min_three max_four min_four   -- for this text's walks alone
/-- The row that value.Set hands back, where it has elements and they are few. -/
theorem SetEnds.ok {w : World} {vs : List PV} {e : Ending} {w' : World} (h : SetEnds w vs e w') (h0 : 0 < vs.length) (h8 : vs.length ≤ 8) :
    ∃ g c, e = .returned (.tuple #[.agg #[.int .i64 5, .bool false, .int .i64 0, .string ⟨#[]⟩, .string ⟨#[]⟩, .string ⟨#[]⟩, .slice (some ⟨g, 0, none⟩) vs.length c], .int .i64 0]) ∧ (∀ i x, vs[i]? = some x → PV.Lies w' ⟨g, i * 7, none⟩ x) ∧ Below w.heap.size w w' ∧ w.heap.size ≤ g ∧ g < w'.heap.size := by
  obtain ⟨hb, outv, hrow, he⟩ := h
  rw [if_pos h8, if_pos h8, if_pos h8] at he
  rcases hrow.2 with ⟨h3, h4⟩ | ⟨g, cap, cur, e1, e2, e3, e4⟩
  · omega
  · subst e1
    refine ⟨g, cap, he, fun i x hx j hj => ?_, hb, by omega, lt_of_heap e3⟩
    have hc := World.ownsRow.cells (g := g) hrow rfl (i * 7 + j) _ (flatPV_at vs i x hx j hj)
    rw [Addr.add_lit] at hc ⊢
    rwa [Nat.zero_add] at hc
theorem known_fold : [PV.nu 2, PV.nu 1, PV.nu 2].foldl setIns [] = [PV.nu 1, PV.nu 2] := by rfl
theorem lies_of_block {w : World} {g : Nat} {vs : List PV} {fr : Nat × Nat} (h : w.heap[g]? = some (.cells (flatPV vs).toArray 31 fr)) : ∀ i x, vs[i]? = some x → ∃ g', some (⟨g, 0, none⟩ : Addr) = some ⟨g', 0, none⟩ ∧ PV.Lies w ⟨g', i * 7, none⟩ x := by
  intro i x hx
  refine ⟨g, rfl, fun j hj => ?_⟩
  rw [Addr.add_lit]
  unfold World.cell?
  rw [h]
  have := flatPV_at vs i x hx j hj
  simpa using this
theorem known_kinds : ∀ x ∈ [PV.nu 2, PV.nu 1, PV.nu 2], x.kind = 2 := by
  intro x hx
  simp only [List.mem_cons, List.not_mem_nil, or_false] at hx
  rcases hx with rfl | rfl | rfl <;> rfl
theorem blk_at (W : World) (o : Obj) (k : Nat) (h : W.heap.size = k) : (W.alloc o).heap[k]? = some o := h ▸ blk_new W o
theorem known_cells : flatPV [PV.nu 2, PV.nu 1, PV.nu 2] = [.int .i64 2, .bool false, .int .i64 2, .string ⟨#[]⟩, .string ⟨#[]⟩, .string ⟨#[]⟩, .slice none 0 0, .int .i64 2, .bool false, .int .i64 1, .string ⟨#[]⟩, .string ⟨#[]⟩, .string ⟨#[]⟩, .slice none 0 0, .int .i64 2, .bool false, .int .i64 2, .string ⟨#[]⟩, .string ⟨#[]⟩, .string ⟨#[]⟩, .slice none 0 0] := rfl
theorem known_text : setText [1, 2] = ⟨#[91, 49, 44, 32, 50, 93]⟩ := by decide +kernel
set_option maxRecDepth 100000 in
set_option maxHeartbeats 8000000 in
/-- chancellaw3.known is true. -/
theorem known_calls (w : World) : Calls Try.prog 10 #[] w fun e w' => e = .returned (.bool true) ∧ Below w.heap.size w w' := by
  have hset : ∀ (g : Nat) (W : World) (fr : Nat × Nat), W.heap[g]? = some (.cells #[.int .i64 2, .bool false, .int .i64 2, .string ⟨#[]⟩, .string ⟨#[]⟩, .string ⟨#[]⟩, .slice none 0 0, .int .i64 2, .bool false, .int .i64 1, .string ⟨#[]⟩, .string ⟨#[]⟩, .string ⟨#[]⟩, .slice none 0 0, .int .i64 2, .bool false, .int .i64 2, .string ⟨#[]⟩, .string ⟨#[]⟩, .string ⟨#[]⟩, .slice none 0 0] 31 fr) → Calls Try.prog 17 #[.slice (some ⟨g, 0, none⟩) 3 3] W (SetEnds W [PV.nu 1, PV.nu 2]) := fun g W fr h => set_all 2 (by decide) [PV.nu 2, PV.nu 1, PV.nu 2] (by decide) known_kinds _ 3 W (lies_of_block (fr := fr) (by rw [known_cells]; exact h))
  have htxt := fun g c W h => text5_nu [1, 2] (by decide) (by decide) (by decide) (by decide +kernel) g c W h
  rw [known_text] at htxt
  have hhold : ∀ (g c : Nat) (W : World), (∀ i x, [PV.nu 1, PV.nu 2][i]? = some x → PV.Lies W ⟨g, i * 7, none⟩ x) → Calls Try.prog 18 #[.agg #[.int .i64 5, .bool false, .int .i64 0, .string ⟨#[]⟩, .string ⟨#[]⟩, .string ⟨#[]⟩, .slice (some ⟨g, 0, none⟩) 2 c], .agg #[.int .i64 2, .bool false, .int .i64 1, .string ⟨#[]⟩, .string ⟨#[]⟩, .string ⟨#[]⟩, .slice none 0 0]] W fun e w' => e = .returned (.bool true) ∧ Below W.heap.size W w' := fun g c W h => holds_set [PV.nu 1, PV.nu 2] (.nu 1) (by decide) (by intro x hx; simp only [List.mem_cons, List.not_mem_nil, or_false] at hx; rcases hx with rfl | rfl <;> rfl) _ c W (fun i x hx => ⟨g, rfl, h i x hx⟩)
  have hv0 : ∀ b c t t2, PV.Lies (((w.alloc (Obj.cells #[Value.int .i64 2, Value.bool false, Value.int .i64 1, Value.string ⟨#[]⟩, Value.string ⟨#[]⟩, Value.string ⟨#[]⟩, Value.slice none 0 0] 31)).alloc (.cells b t)).alloc (.cells c t2)) ⟨w.heap.size, 0, none⟩ (.nu 1) := fun b c t t2 => PV.Lies.of7 (by show World.cell? _ _ = some (Value.int .i64 2); go_simp) (by show World.cell? _ _ = some (Value.bool false); go_simp) (by show World.cell? _ _ = some (Value.int .i64 1); go_simp) (by show World.cell? _ _ = some (Value.string ⟨#[]⟩); go_simp) (by show World.cell? _ _ = some (Value.string ⟨#[]⟩); go_simp) (by show World.cell? _ _ = some (Value.string ⟨#[]⟩); go_simp) (by show World.cell? _ _ = some (Value.slice none 0 0); go_simp)
  go_enter Try.func10, Try.ntmps10
  go_wp2_with (first | (go_at_call 17; refine (hset _ _ _ (blk_at _ _ _ (by simp))).mono ?_; rintro e w1 hE; obtain ⟨g, c, rfl, hl, hb, hg1, hg2⟩ := hE.ok (by decide) (by decide); have HL := Aside0.mk hl; have HB : Aside0 (Below w.heap.size w w1) := ⟨below_step (by repeat (first | exact Below.refl _ _ | apply below_alloc | apply pw_below_drewN | apply below_drew1)) hb⟩; have HV : Aside0 (PV.Lies w1 ⟨w.heap.size, 0, none⟩ (.nu 1)) := ⟨(hv0 _ _ _ _).below hb⟩; clear hE hl hb hg1) | (go_at_call 14; refine (htxt _ _ _ (fun i n hi => PV.Lies.below (HL.out i (.nu (n : Int)) (by have := congrArg (Option.map fun n : Nat => PV.nu (n : Int)) hi; rw [← List.getElem?_map] at this; exact this)) (below_alloc (Below.refl _ _) _))).mono ?_; rintro e w2 ⟨rfl, hb⟩; have HV2 : Aside0 (PV.Lies w2 ⟨w.heap.size, 0, none⟩ (.nu 1)) := ⟨(HV.out.below (below_alloc (Below.refl _ _) _)).below hb⟩; have HL2 : Aside0 (∀ i x, [PV.nu 1, PV.nu 2][i]? = some x → PV.Lies w2 ⟨g, i * 7, none⟩ x) := ⟨fun i x hx => ((HL.out i x hx).below (below_alloc (Below.refl _ _) _)).below hb⟩; have HB2 : Aside0 (Below w.heap.size w w2) := ⟨below_step (by repeat (first | exact HB.out | apply below_alloc | apply pw_below_drewN | apply below_drew1)) hb⟩; have b0 := (hb.cell (p := ⟨w1.heap.size, 0, none⟩) (by simp)).trans (show _ = some (Value.int .i64 5) by simp); have b1 := (hb.cell (p := ⟨w1.heap.size, 1, none⟩) (by simp)).trans (show _ = some (Value.bool false) by simp); have b2 := (hb.cell (p := ⟨w1.heap.size, 2, none⟩) (by simp)).trans (show _ = some (Value.int .i64 0) by simp); have b3 := (hb.cell (p := ⟨w1.heap.size, 3, none⟩) (by simp)).trans (show _ = some (Value.string ⟨#[]⟩) by simp); have b4 := (hb.cell (p := ⟨w1.heap.size, 4, none⟩) (by simp)).trans (show _ = some (Value.string ⟨#[]⟩) by simp); have b5 := (hb.cell (p := ⟨w1.heap.size, 5, none⟩) (by simp)).trans (show _ = some (Value.string ⟨#[]⟩) by simp); have b6 := (hb.cell (p := ⟨w1.heap.size, 6, none⟩) (by simp)).trans (show _ = some (Value.slice (some ⟨g, 0, none⟩) 2 c) by simp); have c0 : w2.cell? ⟨w.heap.size, 0, none⟩ = some (Value.int .i64 2) := HV2.out.at 0 (by decide); have c1 : w2.cell? ⟨w.heap.size, 1, none⟩ = some (Value.bool false) := (congrArg w2.cell? (show (⟨w.heap.size, 1, none⟩ : Addr) = ⟨w.heap.size, 0 + 1, none⟩ by rw [Nat.zero_add])).trans (HV2.out.at 1 (by decide)); have c2 : w2.cell? ⟨w.heap.size, 2, none⟩ = some (Value.int .i64 1) := (congrArg w2.cell? (show (⟨w.heap.size, 2, none⟩ : Addr) = ⟨w.heap.size, 0 + 2, none⟩ by rw [Nat.zero_add])).trans (HV2.out.at 2 (by decide)); have c3 : w2.cell? ⟨w.heap.size, 3, none⟩ = some (Value.string ⟨#[]⟩) := (congrArg w2.cell? (show (⟨w.heap.size, 3, none⟩ : Addr) = ⟨w.heap.size, 0 + 3, none⟩ by rw [Nat.zero_add])).trans (HV2.out.at 3 (by decide)); have c4 : w2.cell? ⟨w.heap.size, 4, none⟩ = some (Value.string ⟨#[]⟩) := (congrArg w2.cell? (show (⟨w.heap.size, 4, none⟩ : Addr) = ⟨w.heap.size, 0 + 4, none⟩ by rw [Nat.zero_add])).trans (HV2.out.at 4 (by decide)); have c5 : w2.cell? ⟨w.heap.size, 5, none⟩ = some (Value.string ⟨#[]⟩) := (congrArg w2.cell? (show (⟨w.heap.size, 5, none⟩ : Addr) = ⟨w.heap.size, 0 + 5, none⟩ by rw [Nat.zero_add])).trans (HV2.out.at 5 (by decide)); have c6 : w2.cell? ⟨w.heap.size, 6, none⟩ = some (Value.slice none 0 0) := (congrArg w2.cell? (show (⟨w.heap.size, 6, none⟩ : Addr) = ⟨w.heap.size, 0 + 6, none⟩ by rw [Nat.zero_add])).trans (HV2.out.at 6 (by decide)); clear hb) | (go_at_call 18; refine (hhold _ _ _ HL2.out).mono ?_; rintro e w3 ⟨rfl, hb⟩; have HB3 : Aside0 (Below w.heap.size w w3) := ⟨below_step HB2.out hb⟩; clear hb))
  go_ret
  exact ⟨rfl, HB3.out⟩
end Go.Proofs.Ytnjlggpidkbjcaa.GV
