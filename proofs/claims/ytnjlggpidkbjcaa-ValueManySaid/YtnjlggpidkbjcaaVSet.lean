import Derived.Test.YtnjlggpidkbjcaaProg
import Derived.Below
import Derived.Deep.Draws
import Derived.Deep.AppendLies
import Derived.Maps.AppendAt
import Derived.OwnWalk
import Derived.Laws.BytesArg
import Derived.Laws.MakeOwn
import Derived.Laws.OwnMore
import Derived.Deep.OwnRows
import Derived.Tactics
import Derived.Lib.ConvBytes
import Derived.Laws.Slices
import Derived.WalkKit
import Derived.KernelRfl
import Derived.RowKit3
import Derived.Deep.LoopGhost
import Derived.Deep.QuietTactic
import Derived.BigQuiet
import Derived.WideLaws
import Derived.Deep.DeepCutAuto
import Derived.Deep.CutBlock
import Derived.Deep.RegionHeld3
import Derived.Laws.Rows
import Derived.Lib.AppendStr
import Derived.ArgAppend
import Derived.Laws.IdiomCopy
import Derived.OrdersHeld
import Derived.Laws.BitsLemmas
import Derived.RowKit
import Derived.Test.YtnjlggpidkbjcaaHandV
import Derived.Test.YtnjlggpidkbjcaaWWords
import Derived.Test.YtnjlggpidkbjcaaWLast
import Derived.Test.YtnjlggpidkbjcaaWTab
import Derived.Test.YtnjlggpidkbjcaaWFour
import Derived.Test.YtnjlggpidkbjcaaWQPut
import Derived.Test.YtnjlggpidkbjcaaWApart
import Derived.Test.YtnjlggpidkbjcaaWArr
import Derived.Test.YtnjlggpidkbjcaaWZeros
import Derived.Test.YtnjlggpidkbjcaaGV0
import Derived.Test.YtnjlggpidkbjcaaVSetP
namespace Go.Proofs.Ytnjlggpidkbjcaa.GV
open Go.RowKit Go.Proofs.YtnjlggpidkbjcaaW.PrintWords Go.Proofs.YtnjlggpidkbjcaaW.PrintLast Go.Proofs.Ytnjlggpidkbjcaa.HandV Go.Proofs.YtnjlggpidkbjcaaW.PrintMore
attribute [local go_sem] max2_int min2_int max_two min_two max_three min_three max_four min_four   -- for this text's walks alone
set_option maxRecDepth 100000 in
set_option maxHeartbeats 16000000 in
/-- value.Set of plain values of one kind. -/
theorem set_all (K : Int) (hK : K ≠ 5) (l : List PV) (hn : l.length ≤ 100) (hk : ∀ x ∈ l, x.kind = K) (p0 : Option Addr) (c : Nat) (w : World) (hl : ∀ i x, l[i]? = some x → ∃ g, p0 = some ⟨g, 0, none⟩ ∧ PV.Lies w ⟨g, i * 7, none⟩ x) :
    Calls Try.prog 17 #[.slice p0 l.length c] w (SetEnds w (l.foldl setIns [])) := by
  have HX := Aside0.mk hl
  have HK := Aside0.mk hk
  clear hl hk
  go_enter Try.func17, Try.ntmps17
  go_wp2
  go_loopw [10] (fun v wr => ∃ k : Nat, v = .int .i64 (k : Int) ∧ k ≤ l.length ∧ ∃ outv, Aside0 (SInv w w.heap.size ((l.take k).foldl setIns []) outv wr)) (fun v _ => match v with | .int _ x => l.length - x.toNat | _ => 0)
  case atStart => exact ⟨0, rfl, Nat.zero_le _, _, ⟨SInv.start w⟩⟩
  case round =>
    obtain ⟨k, rfl, hk, outv, HI⟩ := hrel
    by_cases hlt : k < l.length
    · obtain ⟨g, rfl, hlx⟩ := HX.out k _ (List.getElem?_eq_getElem hlt)
      have hlt0 : decide ((k : Int) < (l.length : Int)) = true := decide_eq_true (by omega)
      have p0 : (0 ≤ (k : Int)) = True := eq_true (by omega)
      have p1 : ((k : Int) < (l.length : Int)) = True := eq_true (by omega)
      have p2 : ((0 : Int) < (l.length : Int)) = True := eq_true (by omega)
      have p3 : (0 < l.length) = True := eq_true (by omega)
      have HLx : Aside0 (PV.Lies wr ⟨g, k * 7, none⟩ (l[k]'hlt)) := ⟨hlx.below HI.out.below⟩
      have z0 : wr.cell? ⟨g, 0, none⟩ = some (.int .i64 K) := by
        have h0 : 0 < l.length := by omega
        obtain ⟨g', hg', hl0⟩ := HX.out 0 _ (List.getElem?_eq_getElem h0)
        obtain rfl : g = g' := by injection hg' with hg'; injection hg'
        have h1 := (hl0.below HI.out.below) 0 (by decide)
        rw [PV.cell0, HK.out _ (List.getElem_mem h0)] at h1
        exact h1
      have hkk := HK.out _ (List.getElem_mem hlt)
      have hvl : ((l.take k).foldl setIns []).length ≤ k := by
        have := foldl_setIns_length (l.take k) []
        simp at this
        omega
      have HVK : Aside0 (∀ x ∈ (l.take k).foldl setIns [], x.kind = K) := ⟨foldl_setIns_kind K _ [] (by simp) (fun x hx => HK.out x (List.mem_of_mem_take hx))⟩
      have HST : Aside0 ((l.take (k + 1)).foldl setIns [] = setIns ((l.take k).foldl setIns []) (l[k]'hlt)) := ⟨by
        rw [List.take_add_one, List.getElem?_eq_getElem hlt, List.foldl_append]
        rfl⟩
      clear hlx
      generalize (l.take k).foldl setIns [] = vs at HI hvl HVK HST
      generalize l[k]'hlt = xk at HLx hkk HST
      have x0 : wr.cell? ⟨g, k * 7, none⟩ = some (.int .i64 K) := by have := HLx.out.at 0 (by decide); rwa [PV.cell0, hkk] at this
      have x1 := HLx.out.at 1 (by decide)
      have x2 := HLx.out.at 2 (by decide)
      have x3 := HLx.out.at 3 (by decide)
      have x4 := HLx.out.at 4 (by decide)
      have x5 := HLx.out.at 5 (by decide)
      have x6 := HLx.out.at 6 (by decide)
      have hg : g < wr.heap.size := World.block_lt_of_cell? _ _ x0
      have hg1 : g ≠ wr.heap.size := Nat.ne_of_lt hg
      have k5 : (K == 5) = false := by simpa using hK
      have s1 := store_of (PV.one xk 1 (by decide))
      have s2 := store_of (PV.one xk 2 (by decide))
      have s3 := store_of (PV.one xk 3 (by decide))
      have s4 := store_of (PV.one xk 4 (by decide))
      have s5 := store_of (PV.one xk 5 (by decide))
      have s6 := store_of (PV.one xk 6 (by decide))
      have hy0 : xk.cell 0 = .int .i64 K := by rw [PV.cell0, hkk]
      generalize hy1 : xk.cell 1 = y1 at x1 s1
      generalize hy2 : xk.cell 2 = y2 at x2 s2
      generalize hy3 : xk.cell 3 = y3 at x3 s3
      generalize hy4 : xk.cell 4 = y4 at x4 s4
      generalize hy5 : xk.cell 5 = y5 at x5 s5
      generalize hy6 : xk.cell 6 = y6 at x6 s6
      obtain ⟨p, c2, rfl, HP0⟩ := HI.out.shape
      have HP := Aside0.mk HP0
      clear HP0
      go_wp2_with fail
      go_quiet ((fail))
      have hW1b : Below wr.heap.size wr ((wr.alloc (Obj.cells #[Value.int IntKind.i64 K, y1, y2, y3, y4, y5, y6] 31)).drewN nq) := pw_below_drewN ((Below.refl _ _).alloc (Nat.le_refl _) _) nq
      have HW1s : Aside0 (((wr.alloc (Obj.cells #[Value.int IntKind.i64 K, y1, y2, y3, y4, y5, y6] 31)).drewN nq).heap.size = wr.heap.size + 1) := ⟨by simp⟩
      have HW1v : Aside0 (PV.Lies ((wr.alloc (Obj.cells #[Value.int IntKind.i64 K, y1, y2, y3, y4, y5, y6] 31)).drewN nq) ⟨wr.heap.size, 0, none⟩ xk) := ⟨PV.Lies.of7 (by rw [hy0]; simp) (by rw [hy1]; simp) (by rw [hy2]; simp) (by rw [hy3]; simp) (by rw [hy4]; simp) (by rw [hy5]; simp) (by rw [hy6]; simp)⟩
      clear x0 x1 x2 x3 x4 x5 x6 z0 hg hg1 HLx
      generalize (wr.alloc (Obj.cells #[Value.int IntKind.i64 K, y1, y2, y3, y4, y5, y6] 31)).drewN nq = W1 at hW1b HW1s HW1v
      have ho1 : W1.cell? ⟨w.heap.size + 1, 0, none⟩ = some (.slice p vs.length c2) := (HI.out.mono hW1b).outCell
      have HW1 := Aside0.mk hW1b
      clear hW1b
      go_wp2_with (go_at_call 33; refine (search_set w w.heap.size vs xk (by omega) (fun x hx => (HVK.out x hx).trans hkk.symm) _ wr.heap.size wr _ HI.out HW1.out HW1v.out).mono ?_; rintro e W2 ⟨rfl, hb2⟩; have HW2 := Aside0.mk (HW1.out.trans (hb2.mono (by rw [HW1s.out]; omega))); have HW2v := Aside0.mk (HW1v.out.below hb2); clear hb2)
      have hpl := placeOf_le vs xk
      have HSD : Aside0 (setIns vs xk = match vs[placeOf vs xk]? with
        | some x => if x.cmp xk == 0 then vs else vs.take (placeOf vs xk) ++ [xk] ++ vs.drop (placeOf vs xk)
        | none => vs.take (placeOf vs xk) ++ [xk] ++ vs.drop (placeOf vs xk)) := ⟨rfl⟩
      generalize placeOf vs xk = pl at hpl HSD
      have ho2 : W2.cell? ⟨w.heap.size + 1, 0, none⟩ = some (.slice p vs.length c2) := (HI.out.mono HW2.out).outCell
      by_cases hend : pl = vs.length
      · have HS : Aside0 (setIns vs xk = vs.take pl ++ [xk] ++ vs.drop pl) := ⟨by rw [HSD.out, List.getElem?_eq_none (by omega)]⟩
        clear HSD
        subst hend
        have he0 : ((vs.length : Int) == (vs.length : Int)) = true := by simp
        go_quiet ((fail))
        have hb3 : Below wr.heap.size wr (W2.drewN nq) := pw_below_drewN HW2.out nq
        have hv3 : PV.Lies (W2.drewN nq) ⟨wr.heap.size, 0, none⟩ xk := HW2v.out.below (pw_below_drewN (Below.refl _ _) nq)
        clear ho1 ho2
        generalize W2.drewN nq = W3 at hb3 hv3
        have HW3 : Aside0 (Below wr.heap.size wr W3) := ⟨hb3⟩
        have HW3v : Aside0 (PV.Lies W3 ⟨wr.heap.size, 0, none⟩ xk) := ⟨hv3⟩
        have hw3s : wr.heap.size ≤ W3.heap.size := hb3.size
        clear hb3 hv3
        have ho3 : W3.cell? ⟨w.heap.size + 1, 0, none⟩ = some (.slice p vs.length c2) := (HI.out.mono HW3.out).outCell
        have v0 : W3.cell? ⟨wr.heap.size, 0, none⟩ = some (.int .i64 K) := by have := HW3v.out.at 0 (by decide); rwa [PV.cell0, hkk] at this
        have v1 := HW3v.out.at 1 (by decide)
        have v2 := HW3v.out.at 2 (by decide)
        have v3 := HW3v.out.at 3 (by decide)
        have v4 := HW3v.out.at 4 (by decide)
        have v5 := HW3v.out.at 5 (by decide)
        have v6 := HW3v.out.at 6 (by decide)
        rw [hy1] at v1
        rw [hy2] at v2
        rw [hy3] at v3
        rw [hy4] at v4
        rw [hy5] at v5
        rw [hy6] at v6
        rw [Nat.zero_add] at v1 v2 v3 v4 v5 v6
        go_wp2_with (go_at_call 35; refine (insert_set HI.out _ (by repeat (first | exact HW3.out | apply below_alloc | apply pw_below_drewN | apply below_drew1)) (by omega) vs.length hpl xk W3.heap.size 1 hw3s _ (blk_new _ _) (PV.Lies.of7 (by rw [hy0]; simp) (by rw [hy1]; simp) (by rw [hy2]; simp) (by rw [hy3]; simp) (by rw [hy4]; simp) (by rw [hy5]; simp) (by rw [hy6]; simp))).mono ?_; rintro e W4 ⟨v', rfl, hpre⟩; obtain ⟨q, n3, c3, rfl⟩ := hpre.shape; have q2 := hpre.outCell; have q3 := hpre.outFrozen; have HPR := Aside0.mk hpre; clear hpre)
        go_roundw
        case rel => exact ⟨k + 1, by first | rfl | (simp; done) | (simp; omega), by omega, _, ⟨by rw [HST.out, HS.out]; exact HPR.out.store⟩⟩
        case measure => simp; omega
      · have hpl2 : pl < vs.length := by omega
        obtain ⟨x', hx'⟩ : ∃ x', vs[pl]? = some x' := ⟨_, List.getElem?_eq_getElem hpl2⟩
        have hkx : x'.kind = K := HVK.out x' (List.mem_of_getElem? hx')
        obtain ⟨g2, rfl, hlx⟩ := HP.out pl x' hx'
        have HL2 : Aside0 (PV.Lies W2 ⟨g2, pl * 7, none⟩ x') := ⟨hlx.below HW2.out⟩
        clear hlx
        have he0 : ((pl : Int) == (vs.length : Int)) = false := by simp; omega
        have p4 : (0 ≤ (pl : Int)) = True := eq_true (by omega)
        have p5 : ((pl : Int) < (vs.length : Int)) = True := eq_true (by omega)
        have e0 : W2.cell? ⟨g2, pl * 7, none⟩ = some (.int .i64 K) := by have := HL2.out.at 0 (by decide); rwa [PV.cell0, hkx] at this
        have e1 := HL2.out.at 1 (by decide)
        have e2 := HL2.out.at 2 (by decide)
        have e3 := HL2.out.at 3 (by decide)
        have e4 := HL2.out.at 4 (by decide)
        have e5 := HL2.out.at 5 (by decide)
        have e6 := HL2.out.at 6 (by decide)
        have v0 : W2.cell? ⟨wr.heap.size, 0, none⟩ = some (.int .i64 K) := by have := HW2v.out.at 0 (by decide); rwa [PV.cell0, hkk] at this
        have v1 := HW2v.out.at 1 (by decide)
        have v2 := HW2v.out.at 2 (by decide)
        have v3 := HW2v.out.at 3 (by decide)
        have v4 := HW2v.out.at 4 (by decide)
        have v5 := HW2v.out.at 5 (by decide)
        have v6 := HW2v.out.at 6 (by decide)
        rw [hy1] at v1
        rw [hy2] at v2
        rw [hy3] at v3
        rw [hy4] at v4
        rw [hy5] at v5
        rw [hy6] at v6
        rw [Nat.zero_add] at v1 v2 v3 v4 v5 v6
        have hsm := same_pv x' xk (hkx.trans hkk.symm)
        unfold PV.arr at hsm
        rw [hy0, hy1, hy2, hy3, hy4, hy5, hy6, show x'.cell 0 = .int .i64 K by rw [PV.cell0, hkx]] at hsm
        generalize x'.cell 1 = a1 at e1 hsm
        generalize x'.cell 2 = a2 at e2 hsm
        generalize x'.cell 3 = a3 at e3 hsm
        generalize x'.cell 4 = a4 at e4 hsm
        generalize x'.cell 5 = a5 at e5 hsm
        generalize x'.cell 6 = a6 at e6 hsm
        rw [hx'] at HSD
        have HSD2 : Aside0 (setIns vs xk = if x'.cmp xk == 0 then vs else vs.take pl ++ [xk] ++ vs.drop pl) := ⟨HSD.out⟩
        clear HSD ho1
        generalize (x'.cmp xk == 0) = cb at hsm HSD2
        have hb2 := HW2.out
        cases cb
        · go_region_held3 (fun W => W.cell? ⟨g2, pl * 7, none⟩ = some (Value.int .i64 K) ∧ W.cell? ⟨g2, pl * 7 + 1, none⟩ = some a1 ∧ W.cell? ⟨g2, pl * 7 + 2, none⟩ = some a2 ∧ W.cell? ⟨g2, pl * 7 + 3, none⟩ = some a3 ∧ W.cell? ⟨g2, pl * 7 + 4, none⟩ = some a4 ∧ W.cell? ⟨g2, pl * 7 + 5, none⟩ = some a5 ∧ W.cell? ⟨g2, pl * 7 + 6, none⟩ = some a6 ∧ W.cell? ⟨wr.heap.size, 0, none⟩ = some (Value.int .i64 K) ∧ W.cell? ⟨wr.heap.size, 1, none⟩ = some y1 ∧ W.cell? ⟨wr.heap.size, 2, none⟩ = some y2 ∧ W.cell? ⟨wr.heap.size, 3, none⟩ = some y3 ∧ W.cell? ⟨wr.heap.size, 4, none⟩ = some y4 ∧ W.cell? ⟨wr.heap.size, 5, none⟩ = some y5 ∧ W.cell? ⟨wr.heap.size, 6, none⟩ = some y6 ∧ W.cell? ⟨w.heap.size + 1, 0, none⟩ = some (.slice (some ⟨g2, 0, none⟩) vs.length c2) ∧ Below wr.heap.size wr W)
            ((first | (go_split_ands; refine ⟨?_, ?_, ?_, ?_, ?_, ?_, ?_, ?_, ?_, ?_, ?_, ?_, ?_, ?_, ?_, ?_⟩ <;> first | assumption | (apply below_drew1; assumption) | (simp; assumption) | exact (hb.cell (World.block_lt_of_cell? _ _ (by assumption))).trans (by assumption) | exact below_step (by assumption) hb) | (refine ⟨?_, ?_, ?_, ?_, ?_, ?_, ?_, ?_, ?_, ?_, ?_, ?_, ?_, ?_, ?_, ?_⟩ <;> first | assumption | (apply below_drew1; assumption) | (simp; assumption))))
            ((go_at_call 13; refine (hsm _).mono ?_; rintro e w' ⟨rfl, hb⟩))
          go_split_ands
          have HS : Aside0 (setIns vs xk = vs.take pl ++ [xk] ++ vs.drop pl) := ⟨HSD2.out⟩
          clear HSD2 e0 e1 e2 e3 e4 e5 e6 v0 v1 v2 v3 v4 v5 v6 ho2 hsm
          have hb3 : Below wr.heap.size wr w' := by assumption
          have hv3 : PV.Lies w' ⟨wr.heap.size, 0, none⟩ xk := PV.Lies.of7 (by rw [hy0]; assumption) (by rw [hy1]; assumption) (by rw [hy2]; assumption) (by rw [hy3]; assumption) (by rw [hy4]; assumption) (by rw [hy5]; assumption) (by rw [hy6]; assumption)
          have HW3 : Aside0 (Below wr.heap.size wr w') := ⟨hb3⟩
          have HW3v : Aside0 (PV.Lies w' ⟨wr.heap.size, 0, none⟩ xk) := ⟨hv3⟩
          have hw3s : wr.heap.size ≤ w'.heap.size := hb3.size
          clear hb3 hv3
          have ho3 : w'.cell? ⟨w.heap.size + 1, 0, none⟩ = some (.slice (some ⟨g2, 0, none⟩) vs.length c2) := (HI.out.mono HW3.out).outCell
          have v0 : w'.cell? ⟨wr.heap.size, 0, none⟩ = some (.int .i64 K) := by have := HW3v.out.at 0 (by decide); rwa [PV.cell0, hkk] at this
          have v1 := HW3v.out.at 1 (by decide)
          have v2 := HW3v.out.at 2 (by decide)
          have v3 := HW3v.out.at 3 (by decide)
          have v4 := HW3v.out.at 4 (by decide)
          have v5 := HW3v.out.at 5 (by decide)
          have v6 := HW3v.out.at 6 (by decide)
          rw [hy1] at v1
          rw [hy2] at v2
          rw [hy3] at v3
          rw [hy4] at v4
          rw [hy5] at v5
          rw [hy6] at v6
          rw [Nat.zero_add] at v1 v2 v3 v4 v5 v6
          go_wp2_with (go_at_call 35; refine (insert_set HI.out _ (by repeat (first | exact HW3.out | apply below_alloc | apply pw_below_drewN | apply below_drew1)) (by omega) pl hpl xk w'.heap.size 1 hw3s _ (blk_new _ _) (PV.Lies.of7 (by rw [hy0]; simp) (by rw [hy1]; simp) (by rw [hy2]; simp) (by rw [hy3]; simp) (by rw [hy4]; simp) (by rw [hy5]; simp) (by rw [hy6]; simp))).mono ?_; rintro e W4 ⟨v', rfl, hpre⟩; obtain ⟨q, n3, c3, rfl⟩ := hpre.shape; have q2 := hpre.outCell; have q3 := hpre.outFrozen; have HPR := Aside0.mk hpre; clear hpre)
          go_roundw
          case rel => exact ⟨k + 1, by first | rfl | (simp; done) | (simp; omega), by omega, _, ⟨by rw [HST.out, HS.out]; exact HPR.out.store⟩⟩
          case measure => simp; omega
        · go_region_held3 (fun W => W.cell? ⟨g2, pl * 7, none⟩ = some (Value.int .i64 K) ∧ W.cell? ⟨g2, pl * 7 + 1, none⟩ = some a1 ∧ W.cell? ⟨g2, pl * 7 + 2, none⟩ = some a2 ∧ W.cell? ⟨g2, pl * 7 + 3, none⟩ = some a3 ∧ W.cell? ⟨g2, pl * 7 + 4, none⟩ = some a4 ∧ W.cell? ⟨g2, pl * 7 + 5, none⟩ = some a5 ∧ W.cell? ⟨g2, pl * 7 + 6, none⟩ = some a6 ∧ W.cell? ⟨wr.heap.size, 0, none⟩ = some (Value.int .i64 K) ∧ W.cell? ⟨wr.heap.size, 1, none⟩ = some y1 ∧ W.cell? ⟨wr.heap.size, 2, none⟩ = some y2 ∧ W.cell? ⟨wr.heap.size, 3, none⟩ = some y3 ∧ W.cell? ⟨wr.heap.size, 4, none⟩ = some y4 ∧ W.cell? ⟨wr.heap.size, 5, none⟩ = some y5 ∧ W.cell? ⟨wr.heap.size, 6, none⟩ = some y6 ∧ W.cell? ⟨w.heap.size + 1, 0, none⟩ = some (.slice (some ⟨g2, 0, none⟩) vs.length c2) ∧ Below wr.heap.size wr W)
            ((first | (go_split_ands; refine ⟨?_, ?_, ?_, ?_, ?_, ?_, ?_, ?_, ?_, ?_, ?_, ?_, ?_, ?_, ?_, ?_⟩ <;> first | assumption | (apply below_drew1; assumption) | (simp; assumption) | exact (hb.cell (World.block_lt_of_cell? _ _ (by assumption))).trans (by assumption) | exact below_step (by assumption) hb) | (refine ⟨?_, ?_, ?_, ?_, ?_, ?_, ?_, ?_, ?_, ?_, ?_, ?_, ?_, ?_, ?_, ?_⟩ <;> first | assumption | (apply below_drew1; assumption) | (simp; assumption))))
            ((go_at_call 13; refine (hsm _).mono ?_; rintro e w' ⟨rfl, hb⟩))
          go_split_ands
          have HS : Aside0 (setIns vs xk = vs) := ⟨HSD2.out⟩
          have hb3 : Below wr.heap.size wr w' := by assumption
          have HW3 : Aside0 (Below wr.heap.size wr w') := ⟨hb3⟩
          clear HSD2 e0 e1 e2 e3 e4 e5 e6 v0 v1 v2 v3 v4 v5 v6 ho2 hsm
          go_wp2
          go_roundw
          case rel => exact ⟨k + 1, by first | rfl | (simp; done) | (simp; omega), by omega, _, ⟨by rw [HST.out, HS.out]; exact HI.out.mono HW3.out⟩⟩
          case measure => simp; omega
    · have hlt0 : decide ((k : Int) < (l.length : Int)) = false := decide_eq_false (by omega)
      have hke : k = l.length := by omega
      subst hke
      have HI2 := HI
      rw [List.take_length] at HI2
      generalize hvs : l.foldl setIns [] = vs at HI2
      obtain ⟨p, c2, rfl, _⟩ := HI2.out.shape
      have ho : wr.cell? ⟨w.heap.size + 1, 0, none⟩ = some (.slice p vs.length c2) := HI2.out.outCell
      have hr := HI2.out.res
      have r0 : wr.cell? ⟨w.heap.size, 0, none⟩ = some (.int .i64 0) := by unfold World.cell?; rw [hr]; rfl
      have r1 : wr.cell? ⟨w.heap.size, 1, none⟩ = some (.bool false) := by unfold World.cell?; rw [hr]; rfl
      have r2 : wr.cell? ⟨w.heap.size, 2, none⟩ = some (.int .i64 0) := by unfold World.cell?; rw [hr]; rfl
      have r3 : wr.cell? ⟨w.heap.size, 3, none⟩ = some (.string ⟨#[]⟩) := by unfold World.cell?; rw [hr]; rfl
      have r4 : wr.cell? ⟨w.heap.size, 4, none⟩ = some (.string ⟨#[]⟩) := by unfold World.cell?; rw [hr]; rfl
      have r5 : wr.cell? ⟨w.heap.size, 5, none⟩ = some (.string ⟨#[]⟩) := by unfold World.cell?; rw [hr]; rfl
      have r6 : wr.cell? ⟨w.heap.size, 6, none⟩ = some (.slice none 0 0) := by unfold World.cell?; rw [hr]; rfl
      have f0 : ∀ o, wr.frozen? ⟨w.heap.size, o, none⟩ = false := by intro o; unfold World.frozen?; rw [hr]; simp
      have hws : w.heap.size < wr.heap.size := lt_of_heap hr
      clear hr
      by_cases h8 : vs.length ≤ 8
      · have h80 : decide (8 < (vs.length : Int)) = false := decide_eq_false (by omega)
        go_wp2
        (try simp only [Exit.inBlock, Exit.then])
        have hd := HI2.out.done (.int .i64 5) (.bool false) (.int .i64 0) (.string ⟨#[]⟩) (.string ⟨#[]⟩) (.string ⟨#[]⟩) (.slice p vs.length c2)
        simp only [World.setCells] at hd
        refine bodyPost_ret (results_row_tmp rfl _ _ w.heap.size 31 _ (0, 0) _ rfl hd.1 Try.underlying31 rfl (by kernel_rfl)) rfl ?_
        show SetEnds w (l.foldl setIns []) _ _
        rw [hvs]
        refine ⟨hd.2.1, _, hd.2.2, ?_⟩
        rw [if_pos h8, if_pos h8, if_pos h8]
        rfl
      · have h80 : decide (8 < (vs.length : Int)) = true := decide_eq_true (by omega)
        go_wp2
        (try simp only [Exit.inBlock, Exit.then])
        have hd := HI2.out.done (.int .i64 0) (.bool false) (.int .i64 0) (.string ⟨#[]⟩) (.string ⟨#[]⟩) (.string ⟨#[]⟩) (.slice none 0 0)
        simp only [World.setCells] at hd
        refine bodyPost_ret (results_row_tmp rfl _ _ w.heap.size 31 _ (0, 0) _ rfl hd.1 Try.underlying31 rfl (by kernel_rfl)) rfl ?_
        show SetEnds w (l.foldl setIns []) _ _
        rw [hvs]
        refine ⟨hd.2.1, _, hd.2.2, ?_⟩
        rw [if_neg h8, if_neg h8, if_neg h8]
        rfl
end Go.Proofs.Ytnjlggpidkbjcaa.GV
