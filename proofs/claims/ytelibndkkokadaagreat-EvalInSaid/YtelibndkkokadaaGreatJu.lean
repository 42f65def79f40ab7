import Derived.Test.YtelibndkkokadaaGreatGB0
import Derived.Test.YtelibndkkokadaaGreatJt
import Derived.Test.YtelibndkkokadaaGreatDC7
import Derived.Test.YtelibndkkokadaaGreatT0
import Derived.Test.YtelibndkkokadaaGreatJe
import Derived.Test.YtelibndkkokadaaGreatGB1
import Derived.Test.YtelibndkkokadaaGreatJr
import Derived.Test.YtelibndkkokadaaGreatSqz
import Derived.Deep.RegionWith
import Derived.Deep.CutRange
import Derived.Deep.QuietTactic
import Derived.BigQuiet
namespace Go.Proofs.YtelibndkkokadaaGreat.EV
open Go.RowKit Go.Proofs.YtelibndkkokadaaGreatW.PrintWords Go.Proofs.YtelibndkkokadaaGreatW.PrintLast Go.Proofs.YtelibndkkokadaaGreat.HandV Go.Proofs.YtelibndkkokadaaGreatW.PrintMore
open Go.Proofs.YtelibndkkokadaaGreat.GB
attribute [local go_sem] max2_int min2_int max_two min_two max_three min_three max_four min_four   -- for this text's walks alone
set_option linter.unusedVariables false
set_option linter.unusedSimpArgs false
-- IMPORT .EI4
-- IMPORT .DC7
-- IMPORT .T0
-- IMPORT .B6
-- IMPORT .GB1
-- IMPORT .GG2s
-- IMPORT .Sqz
-- IMPORT Derived.Deep.RegionWith
-- IMPORT Derived.Deep.CutRange
-- IMPORT Derived.Deep.QuietTactic
-- IMPORT Derived.BigQuiet
open GA (En U okL okU inF)
open GP (AnyG)
abbrev Ud := U
theorem infoX : (Tryz.prog.info? 36).map (fun i => (i.zero, i.size, i.bytes)) = some (some (.agg #[(.int .i64 0), (.bool false), (.int .i64 0), (.string ⟨#[]⟩), (.string ⟨#[]⟩), (.string ⟨#[]⟩), (.slice none 0 0)]), 7, 96) := by kernel_rfl
set_option maxRecDepth 100000 in
set_option maxHeartbeats 16000000 in
theorem within13_any (a m : Int) (hm : 0 < m) (hm2 : m ≤ 1000000) : ∃ r : Nat, (r : Int) < m ∧ ∀ w : World, Calls Tryz.prog 7 #[.int .i64 a, .int .i64 m] w fun e w' => e = .returned (.int .i64 (r : Int)) ∧ w' = w := by
  have h1 := Int.tmod_lt_of_pos a hm
  have h2 := GP.tmod_gt a m hm
  have hz : (m == 0) = false := beq_eq_false_iff_ne.mpr (by omega)
  by_cases h : Int.tmod a m < 0
  · refine ⟨(Int.tmod a m + m).toNat, by omega, fun w => ?_⟩
    have e1 : (((Int.tmod a m + m).toNat : Nat) : Int) = Int.tmod a m + m := by omega
    have d1 : (Int.tmod a m < 0) = True := eq_true h
    have hw : IntKind.i64.wrap (Int.tmod a m + m) = Int.tmod a m + m := (i64_w _).trans (GP.wr_id (by omega) (by omega))
    rw [e1]
    clear e1
    go_enter Tryz.func7, Tryz.ntmps7
    go_wp2
    go_ret
    exact ⟨rfl, rfl⟩
  · refine ⟨(Int.tmod a m).toNat, by omega, fun w => ?_⟩
    have e1 : (((Int.tmod a m).toNat : Nat) : Int) = Int.tmod a m := by omega
    have d1 : (Int.tmod a m < 0) = False := eq_false h
    rw [e1]
    clear e1
    go_enter Tryz.func7, Tryz.ntmps7
    go_wp2
    go_ret
    exact ⟨rfl, rfl⟩
/-- A uid in memory, the first of a row. -/
theorem uid0 {W : World} {A : Option Addr} {l : List Ud} (h : k28.C W A l.length l) (hl : 0 < l.length) : ∃ ad, A = some ad ∧ W.cell? ad = some (.string l[0].f0) ∧ W.cell? ⟨ad.block, ad.off + 1, none⟩ = some (.string l[0].f1) := by
  obtain ⟨ad, e, g0, g1⟩ := at_T28 h 0 (by decide) (by omega)
  have hrd : rd_T28 l (0 : Int) = l[0] := by
    unfold rd_T28
    rw [show Int.toNat 0 = 0 from rfl, List.getD_eq_getElem?_getD, List.getElem?_eq_getElem hl]; rfl
  rw [hrd] at g0 g1
  have h1 : ad.add (Int.toNat 0 * 2) = ad := by simp [Addr.add]
  rw [h1] at g0 g1
  exact ⟨ad, e, g0, g1⟩
/-- An entity in memory. -/
theorem entC {W : World} {A : Option Addr} {g : List En} (h : k32.C W A g.length g) {i : Nat} (hi : i < g.length) : ∃ (ad : Addr) (A2 : Option Addr) (c2 : Nat) (A3 : Option Addr) (c3 : Nat), A = some ad ∧ W.cell? (ad.add (i * 4)) = some (.string g[i].f0.f0) ∧ W.cell? ⟨(ad.add (i * 4)).block, (ad.add (i * 4)).off + 1, none⟩ = some (.string g[i].f0.f1) ∧ W.cell? ⟨(ad.add (i * 4)).block, (ad.add (i * 4)).off + 2, none⟩ = some (.slice A2 g[i].f1.length c2) ∧ W.cell? ⟨(ad.add (i * 4)).block, (ad.add (i * 4)).off + 3, none⟩ = some (.slice A3 g[i].f2.length c3) ∧ g[i].f1.length ≤ c2 ∧ k28.C W A2 g[i].f1.length g[i].f1 := by
  obtain ⟨ad, A2, c2, A3, c3, e, g0, g1, g2, g3, l2, h2, _, _⟩ := at_T32 h (i : Int) (by omega) (by omega)
  have hrd : rd_T32 g (i : Int) = g[i] := by
    unfold rd_T32
    rw [Int.toNat_natCast, List.getD_eq_getElem?_getD, List.getElem?_eq_getElem hi]; rfl
  rw [hrd] at g0 g1 g2 g3 l2 h2
  rw [Int.toNat_natCast] at g0 g1 g2 g3
  exact ⟨ad, A2, c2, A3, c3, e, g0, g1, g2, g3, l2, h2⟩
/-- The boxes of the law. -/
structure LI (w2 : World) (gu : Nat) (u : U) (ge : Nat) (K : Value) (W : World) : Prop where
  ub : W.heap[gu]? = some (.cells #[.string u.f0, .string u.f1] 28 (0, 0))
  eb : W.heap[ge]? = some (.cells #[.int .i64 6, .bool false, .int .i64 0, .string ⟨#[]⟩, .string ⟨#[]⟩, .string ⟨#[]⟩, K] 36 (0, 0))
  be : Below w2.heap.size w2 W
  l0 : w2.heap.size ≤ gu
  l1 : gu < ge
theorem LI.step {w2 : World} {gu : Nat} {u : U} {ge : Nat} {K : Value} {W W' : World} (h : LI w2 gu u ge K W) (hb : Below W.heap.size W W') : LI w2 gu u ge K W' := ⟨blk_below h.ub hb, blk_below h.eb hb, below_step h.be hb, h.l0, h.l1⟩
theorem LI.far {w2 : World} {gu : Nat} {u : U} {ge : Nat} {K : Value} {W : World} (h : LI w2 gu u ge K W) {b : Nat} (hb : ge < b) (j : Nat) (v : Value) : LI w2 gu u ge K (W.setCell ⟨b, j, none⟩ v) := by
  have h1 := h.l1
  have h0 := h.l0
  exact ⟨blk_far h.ub (p := ⟨b, j, none⟩) (by show gu ≠ b; omega) _, blk_far h.eb (p := ⟨b, j, none⟩) (by show ge ≠ b; omega) _, h.be.setCell (p := ⟨b, j, none⟩) (by show w2.heap.size ≤ b; omega) _, h.l0, h.l1⟩
theorem LI.put {w2 : World} {gu : Nat} {u : U} {ge : Nat} {K : Value} {W : World} (h : LI w2 gu u ge K W) (K' : Value) : LI w2 gu u ge K' (W.setCell ⟨ge, 6, none⟩ K') := by
  have h1 := h.l1
  have h0 := h.l0
  exact ⟨blk_far h.ub (p := ⟨ge, 6, none⟩) (by show gu ≠ ge; omega) _, blk_put (cs' := #[.int .i64 6, .bool false, .int .i64 0, .string ⟨#[]⟩, .string ⟨#[]⟩, .string ⟨#[]⟩, K']) h.eb 6 _ rfl, h.be.setCell (p := ⟨ge, 6, none⟩) (by show w2.heap.size ≤ ge; omega) _, h.l0, h.l1⟩
/-- And the box of the round's uid. -/
structure LJ (w2 : World) (gu : Nat) (u : U) (ge : Nat) (K : Value) (gw : Nat) (v : U) (W : World) : Prop extends LI w2 gu u ge K W where
  wb : W.heap[gw]? = some (.cells #[.string v.f0, .string v.f1] 28 (0, 0))
  l2 : ge < gw
theorem LJ.step {w2 : World} {gu : Nat} {u : U} {ge : Nat} {K : Value} {gw : Nat} {v : U} {W W' : World} (h : LJ w2 gu u ge K gw v W) (hb : Below W.heap.size W W') : LJ w2 gu u ge K gw v W' := ⟨h.toLI.step hb, blk_below h.wb hb, h.l2⟩
/-- And the round's tree. -/
structure LK (w2 : World) (gu : Nat) (u : U) (ge : Nat) (K : Value) (gw : Nat) (v : U) (gk : Nat) (W : World) : Prop extends LJ w2 gu u ge K gw v W where
  kb : W.heap[gk]? = some (.cells #[.int .i64 4, .bool false, .int .i64 0, .string ⟨#[]⟩, .string v.f0, .string v.f1, .slice none 0 0] 36 (0, 0))
theorem LK.step {w2 : World} {gu : Nat} {u : U} {ge : Nat} {K : Value} {gw : Nat} {v : U} {gk : Nat} {W W' : World} (h : LK w2 gu u ge K gw v gk W) (hb : Below W.heap.size W W') : LK w2 gu u ge K gw v gk W' := ⟨h.toLJ.step hb, blk_below h.kb hb⟩
theorem LI.grown {w2 : World} {gu : Nat} {u : U} {ge : Nat} {K : Value} {W W' : World} (h : LI w2 gu u ge K W) (hb : Below w2.heap.size w2 W') {own : Option Nat} (hg : W.grownBy W' own) (hne : ∀ k, own = some k → ge + 1 ≤ k) : LI w2 gu u ge K W' :=
  ⟨(hg.block _ (blk_lt h.ub) (fun he => by have := hne _ he.symm; have := h.l1; omega)).trans h.ub, (hg.block _ (blk_lt h.eb) (fun he => by have := hne _ he.symm; omega)).trans h.eb, hb, h.l0, h.l1⟩
theorem cells2 {W : World} {g : Nat} {t : TypeId} {a0 a1 : Value} (h : W.heap[g]? = some (.cells #[a0, a1] t (0, 0))) : W.cell? ⟨g, 0, none⟩ = some a0 ∧ W.cell? ⟨g, 1, none⟩ = some a1 := ⟨(blk_cell h 0).trans rfl, (blk_cell h 1).trans rfl⟩
theorem cells4 {W : World} {g : Nat} {t : TypeId} {a0 a1 a2 a3 : Value} (h : W.heap[g]? = some (.cells #[a0, a1, a2, a3] t (0, 0))) : W.cell? ⟨g, 0, none⟩ = some a0 ∧ W.cell? ⟨g, 1, none⟩ = some a1 ∧ W.cell? ⟨g, 2, none⟩ = some a2 ∧ W.cell? ⟨g, 3, none⟩ = some a3 := ⟨(blk_cell h 0).trans rfl, (blk_cell h 1).trans rfl, (blk_cell h 2).trans rfl, (blk_cell h 3).trans rfl⟩
def ri18_T : Bool × List (List Nat × List Nat) := (true, [([], []), ([0], [0]), ([1], [1]), ([2], [2]), ([3, 2], [2, 3]), ([2], [2]), ([2], [2]), ([2], [2]), ([5, 6, 7, 2, 2], [2, 5, 6, 7]), ([4, 8, 2], [2, 4, 8]), ([2, 9], [2, 9])])
def ri18_B : List Nat := [0, 1, 3, 7, 15, 7, 7, 7, 231, 511, 1023]
theorem ri18_tab : rtab .any (opsOf Tryz.f3 18) = ri18_T := by kernel_rfl
theorem ri18_bits : waitsOk ri18_T.2 ri18_B = true := by kernel_rfl
set_option maxRecDepth 100000 in
set_option maxHeartbeats 16000000 in
theorem in_law (l0 : List S64) (A0 : Option Addr) (c0 : Nat) (a : Int) (bs : List Int) (A1 : Option Addr) (c1 : Nat) (w : World) (hr : k64.C w A0 l0.length l0) (hc0 : l0.length ≤ c0) (hn : (Kd.int .i64).C w A1 bs.length bs) : Calls Tryz.prog 3 #[.slice A0 l0.length c0, .int .i64 a, .slice A1 bs.length c1] w fun e w' => e = .returned (.bool true) ∧ Below w.heap.size w w' := by
  have HR := Aside0.mk hr
  have HC0 := Aside0.mk hc0
  have HBs := Aside0.mk hn
  clear hr hc0 hn
  go_enter Tryz.func3, Tryz.ntmps3
  go_upto_region 4 with (first | (go_at_call 5; refine (known13_calls _).mono ?_; rintro e w1 ⟨rfl, hb⟩; have HB1 := Aside0.mk hb; clear hb) | (go_at_call 6; refine (GA.rgood8 l0 A0 c0 _ (Kd.C_below HR.out HB1.out) HC0.out).mono ?_; rintro e w2 ⟨v, g, rfl, hA, hN, hb⟩; have HA := Aside0.mk hA; obtain ⟨A, c, rfl⟩ := Kd.N_slice hN; have HC := Aside0.mk (Kd.N_reads' hN).2; have HB2 := Aside0.mk (below_step HB1.out hb); clear hA hN hb))
  have hl12 := HA.out.2.2
  have HOK := Aside0.mk (GP.anyG_ok HA.out)
  have HBw := Aside0.mk (Kd.C_below HBs.out HB2.out)
  by_cases hg : g.length = 0
  · have d1 : ((g.length : Int) == 0) = true := by simp [hg]
    go_wp2
    go_ret
    exact ⟨rfl, HB2.out⟩
  have d1 : ((g.length : Int) == 0) = false := beq_eq_false_iff_ne.mpr (by omega)
  by_cases hb0 : bs.length = 0
  · have d2 : ((bs.length : Int) == 0) = true := by simp [hb0]
    go_wp2
    go_ret
    exact ⟨rfl, HB2.out⟩
  have d2 : ((bs.length : Int) == 0) = false := beq_eq_false_iff_ne.mpr (by omega)
  by_cases hb8 : 8 < bs.length
  · have d3 : ((8 : Int) < (bs.length : Int)) = True := eq_true (by omega)
    go_wp2
    go_ret
    exact ⟨rfl, HB2.out⟩
  have d3 : ((8 : Int) < (bs.length : Int)) = False := eq_false (by omega)
  obtain ⟨r, hrl, HWr'⟩ := within13_any a (g.length : Int) (by omega) (by omega)
  have HWr := Aside0.mk HWr'
  have hrl' : r < g.length := by omega
  have e1 : ((r : Int) < (g.length : Int)) = True := eq_true hrl
  obtain ⟨ad, A2, c2, A3, c3, rfl, x0, x1, x2, x3, hy1, hy2⟩ := entC HC.out.2 hrl'
  clear hy1 hy2
  have HU := Aside0.mk (GA.okL_mem HOK.out (List.getElem_mem hrl')).1
  clear HWr'
  go_upto_region 7 with (go_at_call 7; refine (HWr.out _).mono ?_; rintro e wj ⟨rfl, hw⟩; rw [hw]; clear hw)
  clear x0 x1 x2 x3 e1 HWr d1 d2 d3
  generalize g[r].f0 = u at HU ⊢
  clear hrl hrl'
  go_wp2
  have HX : Aside0 (LI w2 w2.heap.size u (w2.heap.size + 1) (.slice none 0 0) ((w2.alloc (.cells #[.string u.f0, .string u.f1] 28)).alloc (.cells #[.int .i64 6, .bool false, .int .i64 0, .string ⟨#[]⟩, .string ⟨#[]⟩, .string ⟨#[]⟩, .slice none 0 0] 36))) := ⟨blk_alloc (blk_new _ _) _, bn2 _ _ _, below_alloc (below_alloc (Below.refl _ _) _) _, Nat.le_refl _, Nat.lt_succ_self _⟩
  generalize (w2.alloc (.cells #[.string u.f0, .string u.f1] 28)).alloc (.cells #[.int .i64 6, .bool false, .int .i64 0, .string ⟨#[]⟩, .string ⟨#[]⟩, .string ⟨#[]⟩, .slice none 0 0] 36) = w3 at HX ⊢
  generalize w2.heap.size + 1 = ge at HX ⊢
  generalize w2.heap.size = gu at HX ⊢
  go_loopw [10, 11] (fun v10 v11 wr => ∃ (q : Nat) (ws : List U) (K : Value), v11 = .int .i64 q ∧ v10 = .bool (ws.any (inF g u)) ∧ q ≤ bs.length ∧ ws.length = q ∧ Aside0 (∀ a ∈ ws, okU a = true) ∧ Aside0 (LI w2 gu u ge K wr) ∧ Aside0 (Kd.N k36 36 wr w2.heap.size (fun k_ => ge + 1 ≤ k_) K (ws.map uidX))) (fun _ v11 _ => bs.length - (intOf v11).toNat)
  case atStart => exact ⟨0, [], .slice none 0 0, rfl, rfl, Nat.zero_le _, rfl, ⟨by simp⟩, HX, ⟨Kd.N_nil _ _ _ _ _⟩⟩
  case round =>
    clear HX
    obtain ⟨q, ws, K, rfl, rfl, hq, hwl, HWS, HX, HN⟩ := hrel
    by_cases hql : q < bs.length
    · have d1 : ((q : Int) < (bs.length : Int)) = True := eq_true (by omega)
      have HCb := Kd.C_below HBw.out HX.out.be
      obtain ⟨ad1, rfl, xb⟩ := Kd.at_int HCb q (by omega) (by omega)
      clear HCb
      have HXb : Aside0 (∀ W, Below wr.heap.size wr W → W.cell? (ad1.add q) = some (.int .i64 (rd bs (q : Int)))) := ⟨fun W hW => by
        obtain ⟨a', e', x⟩ := Kd.at_int (Kd.C_below HBw.out (below_step HX.out.be hW)) q (by omega) (by omega)
        cases e'
        exact x⟩
      clear xb
      generalize rd bs (q : Int) = n at HXb
      have xb := HXb.out _ (Below.refl _ _)
      obtain ⟨r2, hr2, HWr'⟩ := within13_any n (g.length : Int) (by omega) (by omega)
      have HWr := Aside0.mk HWr'
      have hr2' : r2 < g.length := by omega
      have e1 : ((r2 : Int) < (g.length : Int)) = True := eq_true hr2
      obtain ⟨ad', A2, c2, A3, c3, eA, x0, x1, x2, x3, l2, h2⟩ := entC (Kd.C_below HC.out.2 HX.out.be) hr2'
      cases eA
      have HU2 := Aside0.mk (GA.okL_mem HOK.out (List.getElem_mem hr2')).1
      have HP2 := Aside0.mk (GA.okL_mem HOK.out (List.getElem_mem hr2')).2.1
      have HPC := Aside0.mk h2
      clear HWr' h2 l2
      go_upto_region 14 with (go_at_call 7; refine (HWr.out _).mono ?_; rintro e wj ⟨rfl, hw⟩; rw [hw]; clear hw)
      clear x0 x1 x2 x3 e1 HWr d1 xb
      have HJ : Aside0 (LJ w2 gu u ge K (wr.heap.size + 1) g[r2].f0 ((wr.alloc (.cells #[.string g[r2].f0.f0, .string g[r2].f0.f1, .slice A2 g[r2].f1.length c2, .slice A3 g[r2].f2.length c3] 32)).alloc (.cells #[.string g[r2].f0.f0, .string g[r2].f0.f1] 28))) := ⟨⟨HX.out.step (below_alloc (below_alloc (Below.refl _ _) _) _), bn2 _ _ _, Nat.lt_of_lt_of_le (blk_lt HX.out.eb) (Nat.le_succ _)⟩⟩
      have HG : Aside0 (((wr.alloc (.cells #[.string g[r2].f0.f0, .string g[r2].f0.f1, .slice A2 g[r2].f1.length c2, .slice A3 g[r2].f2.length c3] 32)).alloc (.cells #[.string g[r2].f0.f0, .string g[r2].f0.f1] 28)).heap[wr.heap.size]? = some (.cells #[.string g[r2].f0.f0, .string g[r2].f0.f1, .slice A2 g[r2].f1.length c2, .slice A3 g[r2].f2.length c3] 32 (0, 0))) := ⟨blk_alloc (blk_new _ _) _⟩
      have HBk : Aside0 (Below wr.heap.size wr ((wr.alloc (.cells #[.string g[r2].f0.f0, .string g[r2].f0.f1, .slice A2 g[r2].f1.length c2, .slice A3 g[r2].f2.length c3] 32)).alloc (.cells #[.string g[r2].f0.f0, .string g[r2].f0.f1] 28))) := ⟨below_alloc (below_alloc (Below.refl _ _) _) _⟩
      have HN4 := Aside0.mk (Kd.N_below (Kd.N_elderB HN.out (wr.heap.size + 1) (Nat.le_succ _)) HBk.out)
      clear HX HN
      generalize (wr.alloc (.cells #[.string g[r2].f0.f0, .string g[r2].f0.f1, .slice A2 g[r2].f1.length c2, .slice A3 g[r2].f2.length c3] 32)).alloc (.cells #[.string g[r2].f0.f0, .string g[r2].f0.f1] 28) = w4 at HJ HG HBk HN4 ⊢
      have xb := HXb.out _ HBk.out
      replace HPC := Aside0.mk (Kd.C_below HPC.out HBk.out)
      clear HXb HBk
      generalize wr.heap.size + 1 = gw at HJ HN4 ⊢
      generalize wr.heap.size = gx at HG ⊢
      obtain ⟨z0, z1, z2, z3⟩ := cells4 HG.out
      go_cut [76] from 47 to 115 (fun v76 wx => w4 = wx ∧ ∃ b : Bool, v76 = .bool b ∧ (b = true → 0 < g[r2].f1.length))
      case first =>
        by_cases hp : 0 < g[r2].f1.length
        · have d3 : ((0 : Int) < (g[r2].f1.length : Int)) = True := eq_true (by omega)
          have d1 : ((q : Int) < (bs.length : Int)) = True := eq_true (by omega)
          go_wp2
          go_meet
          case rel => exact ⟨rfl, _, rfl, fun _ => hp⟩
        · have d3 : ((0 : Int) < (g[r2].f1.length : Int)) = False := eq_false (by omega)
          go_wp2
          go_meet
          case rel => exact ⟨rfl, false, rfl, by simp⟩
      case rest =>
        obtain ⟨rfl, b, rfl, hb⟩ := hcut
        clear xb
        go_upto_if 76 with (fail)
        go_cut [13] from 47 to 115 (fun v13 wx => v13 = .pointer (some ⟨gw, 0, none⟩) ∧ ∃ v : U, Aside0 (okU v = true) ∧ Aside0 (LJ w2 gu u ge K gw v wx) ∧ Aside0 (Kd.N k36 36 wx w2.heap.size (fun k_ => ge + 1 ≤ k_) K (ws.map uidX)))
        case first =>
          cases b with
          | false =>
            go_wp2
            go_meet
            case rel => exact ⟨rfl, _, HU2, HJ, ⟨Kd.N_drop HN4.out⟩⟩
          | true =>
            have hp := hb rfl
            have d3 : ((0 : Int) < (g[r2].f1.length : Int)) = True := eq_true (by omega)
            obtain ⟨ad3, rfl, y0, y1⟩ := uid0 HPC.out hp
            have HV := Aside0.mk (HP2.out _ (List.getElem_mem hp))
            obtain ⟨s0, s1⟩ := cells2 HJ.out.wb
            have f0 := blk_frozen HJ.out.wb 0
            have f1 := blk_frozen HJ.out.wb 1
            go_wp2
            go_meet
            case rel => exact ⟨rfl, _, HV, ⟨⟨(HJ.out.toLI.far HJ.out.l2 0 _).far HJ.out.l2 1 _, blk_put (cs' := #[.string _, .string _]) (blk_put (cs' := #[.string _, .string _]) HJ.out.wb 0 _ rfl) 1 _ rfl, HJ.out.l2⟩⟩, ⟨Kd.N_drop (Kd.N_far (p := ⟨gw, 1, none⟩) (Kd.N_far (p := ⟨gw, 0, none⟩) HN4.out (fun k hk => hk.2) _) (fun k hk => hk.2) _)⟩⟩
        case rest =>
          clear HJ HN4 z0 z1 z2 z3 HG HPC HP2 HU2 hb
          obtain ⟨rfl, v, HV, HJ, HN⟩ := hcut
          obtain ⟨s0, s1⟩ := cells2 HJ.out.wb
          obtain ⟨t0, t1⟩ := cells2 HJ.out.ub
          go_upto_region 17 with (fail)
          have HL : Aside0 (LK w2 gu u ge K gw v wc.heap.size (wc.alloc (.cells #[.int .i64 4, .bool false, .int .i64 0, .string ⟨#[]⟩, .string v.f0, .string v.f1, .slice none 0 0] 36))) := ⟨⟨HJ.out.step (b_al _ _), blk_new _ _⟩⟩
          replace HN := Aside0.mk (Kd.N_alloc HN.out (.cells #[.int .i64 4, .bool false, .int .i64 0, .string ⟨#[]⟩, .string v.f0, .string v.f1, .slice none 0 0] 36 (0, 0)))
          clear HJ s0 s1 t0 t1
          generalize wc.alloc (.cells #[.int .i64 4, .bool false, .int .i64 0, .string ⟨#[]⟩, .string v.f0, .string v.f1, .slice none 0 0] 36) = w6 at HL HN ⊢
          generalize wc.heap.size = gk at HL ⊢
          obtain ⟨k0, k1, k2, k3, k4, k5, k6⟩ := cells7 HL.out.kb
          obtain ⟨t0, t1⟩ := cells2 HL.out.ub
          go_upto_region 18 with (go_at_call 8; refine (ask_uid g HOK.out u HU.out (some ad) c HC.out.1 v HV.out _ _ (Kd.C_below HC.out.2 (below_alloc HL.out.be _)) (blk_new _ _)).mono ?_; rintro e w7 ⟨K7, rfl, hV, hb⟩; obtain ⟨A7, c7, rfl⟩ := Kd.V_slice hV; have HB7 : Aside0 (Below w6.heap.size w6 w7) := ⟨below_step (b_al _ _) hb⟩; clear hV hb)
          have HV5 : Aside0 ((w7.alloc (.cells #[.int .i64 1, .bool (inF g u v), .int .i64 0, .string ⟨#[]⟩, .string ⟨#[]⟩, .string ⟨#[]⟩, .slice A7 0 c7] 39)).heap[w7.heap.size]? = some (.cells #[.int .i64 1, .bool (inF g u v), .int .i64 0, .string ⟨#[]⟩, .string ⟨#[]⟩, .string ⟨#[]⟩, .slice A7 0 c7] 39 (0, 0))) := ⟨blk_new _ _⟩
          replace HL := Aside0.mk ((HL.out.step HB7.out).step (b_al w7 (.cells #[.int .i64 1, .bool (inF g u v), .int .i64 0, .string ⟨#[]⟩, .string ⟨#[]⟩, .string ⟨#[]⟩, .slice A7 0 c7] 39 (0, 0))))
          replace HN := Aside0.mk (Kd.N_alloc (Kd.N_below HN.out HB7.out) (.cells #[.int .i64 1, .bool (inF g u v), .int .i64 0, .string ⟨#[]⟩, .string ⟨#[]⟩, .string ⟨#[]⟩, .slice A7 0 c7] 39 (0, 0)))
          clear HB7 k0 k1 k2 k3 k4 k5 k6 t0 t1
          generalize w7.alloc (.cells #[.int .i64 1, .bool (inF g u v), .int .i64 0, .string ⟨#[]⟩, .string ⟨#[]⟩, .string ⟨#[]⟩, .slice A7 0 c7] 39) = w8 at HL HN HV5 ⊢
          generalize w7.heap.size = g5 at HV5 ⊢
          replace HL : Aside0 (LK w2 gu u ge K gw v gk w8.drew) := ⟨HL.out.step (below_drew1 (Below.refl _ _))⟩
          replace HN : Aside0 (Kd.N k36 36 w8.drew w2.heap.size (fun k_ => ge + 1 ≤ k_) K (ws.map uidX)) := ⟨Kd.N_drew HN.out⟩
          replace HV5 : Aside0 (w8.drew.heap[g5]? = some (.cells #[.int .i64 1, .bool (inF g u v), .int .i64 0, .string ⟨#[]⟩, .string ⟨#[]⟩, .string ⟨#[]⟩, .slice A7 0 c7] 39 (0, 0))) := ⟨blk_below HV5.out (below_drew1 (Below.refl _ _))⟩
          refine start_ (n := 11) (S := fun w' => True) (ds := []) #[false, false, false, false, false, false, false, false, false, false, false] (by kernel_rfl) rfl rfl trivial (fun hHeld => ?_)
          refine with_tabW ri18_tab ri18_bits (fun HT_ HW_ => ?_)
          generalize w8.drew = wd at HL HN HV5 hHeld ⊢
          have H5 := HV5
          have Hu := Aside0.mk HL.out.ub
          have Hw := Aside0.mk HL.out.wb
          have KB_ := Aside0.mk (Below.refl wd.heap.size wd)
          refine inv_at [0, 1, 2, 3, 4, 5, 6, 7, 8, 9, 10] (fun a0_ b a w' => a = putSel a0_ b [(0, 94, .int .i64 0), (1, 95, .bool false), (2, 96, .bool false), (3, 97, .pointer (some ⟨g5, 1, none⟩)), (4, 98, .bool (inF g u v)), (5, 99, .slice (some ad) g.length c), (6, 100, .agg #[.string u.f0, .string u.f1]), (7, 101, .agg #[.string v.f0, .string v.f1]), (8, 102, .bool (inF g u v)), (9, 103, .bool false), (10, 104, .bool false)] ∧ (Below wd.heap.size wd w')) HT_.out HW_.out (by kernel_rfl) (by kernel_rfl) ?_ ?_ ?_
          · exact ⟨by simp only [putSel, Bool.false_eq_true, if_false], KB_.out⟩
          · skip
            clear KB_
            refine steps_cons ?_ ?_
            · rintro b a w' ⟨ha, Q_KB_⟩ hb_ hon hoff
              refine ⟨_, rfl, fun K hK => ?_⟩
              have e16 : a.tmps[16]? = some (.int .i64 0) := by rw [ha]; exact (putSel_off rfl).trans rfl
              replace ha := Aside0.mk ha
              have KB_ := Aside0.mk Q_KB_
              refine value_ (w1 := w') (v := .int .i64 0) (by rfl) rfl ?_ ?_
              · go_simp
                (try simp only [i64_w])
                try rfl
              refine hK.out _ _ ⟨(by rw [ha.out]; exact putSel_upk 0 hb_ rfl rfl rfl), Q_KB_⟩
            refine steps_cons ?_ ?_
            · rintro b a w' ⟨ha, Q_KB_⟩ hb_ hon hoff
              refine ⟨_, rfl, fun K hK => ?_⟩
              have e94 : a.tmps[94]? = some (.int .i64 0) := by rw [ha]; exact putSel_on (e := (0, 94, .int .i64 0)) 0 rfl rfl (hon 0 (by kernel_rfl)) rfl
              replace ha := Aside0.mk ha
              have KB_ := Aside0.mk Q_KB_
              refine value_ (w1 := w') (v := .bool false) (by rfl) rfl ?_ ?_
              · go_simp
                (try simp only [i64_w])
                try rfl
              refine hK.out _ _ ⟨(by rw [ha.out]; exact putSel_upk 1 hb_ rfl rfl rfl), Q_KB_⟩
            refine steps_cons ?_ ?_
            · rintro b a w' ⟨ha, Q_KB_⟩ hb_ hon hoff
              refine ⟨_, rfl, fun K hK => ?_⟩
              have e95 : a.tmps[95]? = some (.bool false) := by rw [ha]; exact putSel_on (e := (1, 95, .bool false)) 1 rfl rfl (hon 1 (by kernel_rfl)) rfl
              replace ha := Aside0.mk ha
              have KB_ := Aside0.mk Q_KB_
              refine value_ (w1 := w') (v := .bool false) (by rfl) rfl ?_ ?_
              · go_simp
                (try simp only [i64_w])
                try rfl
              refine hK.out _ _ ⟨(by rw [ha.out]; exact putSel_upk 2 hb_ rfl rfl rfl), Q_KB_⟩
            refine steps_cons ?_ ?_
            · rintro b a w' ⟨ha, Q_KB_⟩ hb_ hon hoff
              refine ⟨_, rfl, fun K hK => ?_⟩
              have e15 : a.tmps[15]? = some (.pointer (some ⟨g5, 0, none⟩)) := by rw [ha]; exact (putSel_off rfl).trans rfl
              have e96 : a.tmps[96]? = some (.bool false) := by rw [ha]; exact putSel_on (e := (2, 96, .bool false)) 2 rfl rfl (hon 2 (by kernel_rfl)) rfl
              replace ha := Aside0.mk ha
              have KB_ := Aside0.mk Q_KB_
              refine value_ (w1 := w') (v := .pointer (some ⟨g5, 1, none⟩)) (wanted_on rfl rfl rfl (e96.trans (by first | rfl | (simp [*]; done)))) rfl ?_ ?_
              · go_simp
                (try simp only [i64_w])
                try rfl
              refine hK.out _ _ ⟨(by rw [ha.out]; exact putSel_upk 3 hb_ rfl rfl rfl), Q_KB_⟩
            refine steps_cons ?_ ?_
            · rintro b a w' ⟨ha, Q_KB_⟩ hb_ hon hoff
              refine ⟨_, rfl, fun K hK => ?_⟩
              have e97 : a.tmps[97]? = some (.pointer (some ⟨g5, 1, none⟩)) := by rw [ha]; exact putSel_on (e := (3, 97, .pointer (some ⟨g5, 1, none⟩))) 3 rfl rfl (hon 3 (by kernel_rfl)) rfl
              have e96 : a.tmps[96]? = some (.bool false) := by rw [ha]; exact putSel_on (e := (2, 96, .bool false)) 2 rfl rfl (hon 2 (by kernel_rfl)) rfl
              replace ha := Aside0.mk ha
              have KB_ := Aside0.mk Q_KB_
              have c0_ : w'.cell? ⟨g5, 1, none⟩ = some (.bool (inF g u v)) := (blk_cell (blk_below H5.out KB_.out) 1).trans rfl
              refine value_ (w1 := w') (v := .bool (inF g u v)) (wanted_on rfl rfl rfl (e96.trans (by first | rfl | (simp [*]; done)))) rfl ?_ ?_
              · go_simp
                (try simp only [i64_w])
                try rfl
              refine hK.out _ _ ⟨(by rw [ha.out]; exact putSel_upk 4 hb_ rfl rfl rfl), Q_KB_⟩
            refine steps_cons ?_ ?_
            · rintro b a w' ⟨ha, Q_KB_⟩ hb_ hon hoff
              refine ⟨_, rfl, fun K hK => ?_⟩
              have e7 : a.tmps[7]? = some (.slice (some ad) g.length c) := by rw [ha]; exact (putSel_off rfl).trans rfl
              have e96 : a.tmps[96]? = some (.bool false) := by rw [ha]; exact putSel_on (e := (2, 96, .bool false)) 2 rfl rfl (hon 2 (by kernel_rfl)) rfl
              replace ha := Aside0.mk ha
              have KB_ := Aside0.mk Q_KB_
              refine value_ (w1 := w') (v := .slice (some ad) g.length c) (wanted_on rfl rfl rfl (e96.trans (by first | rfl | (simp [*]; done)))) rfl ?_ ?_
              · go_simp
                (try simp only [i64_w])
                try rfl
              refine hK.out _ _ ⟨(by rw [ha.out]; exact putSel_upk 5 hb_ rfl rfl rfl), Q_KB_⟩
            refine steps_cons ?_ ?_
            · rintro b a w' ⟨ha, Q_KB_⟩ hb_ hon hoff
              refine ⟨_, rfl, fun K hK => ?_⟩
              have e8 : a.tmps[8]? = some (.pointer (some ⟨gu, 0, none⟩)) := by rw [ha]; exact (putSel_off rfl).trans rfl
              have e96 : a.tmps[96]? = some (.bool false) := by rw [ha]; exact putSel_on (e := (2, 96, .bool false)) 2 rfl rfl (hon 2 (by kernel_rfl)) rfl
              replace ha := Aside0.mk ha
              have KB_ := Aside0.mk Q_KB_
              have c0_ : w'.cell? ⟨gu, 0, none⟩ = some (.string u.f0) := (blk_cell (blk_below Hu.out KB_.out) 0).trans rfl
              have c1_ : w'.cell? ⟨gu, 1, none⟩ = some (.string u.f1) := (blk_cell (blk_below Hu.out KB_.out) 1).trans rfl
              refine value_ (w1 := w') (v := .agg #[.string u.f0, .string u.f1]) (wanted_on rfl rfl rfl (e96.trans (by first | rfl | (simp [*]; done)))) rfl ?_ ?_
              · go_simp
                (try simp only [i64_w])
                try rfl
              refine hK.out _ _ ⟨(by rw [ha.out]; exact putSel_upk 6 hb_ rfl rfl rfl), Q_KB_⟩
            refine steps_cons ?_ ?_
            · rintro b a w' ⟨ha, Q_KB_⟩ hb_ hon hoff
              refine ⟨_, rfl, fun K hK => ?_⟩
              have e13 : a.tmps[13]? = some (.pointer (some ⟨gw, 0, none⟩)) := by rw [ha]; exact (putSel_off rfl).trans rfl
              have e96 : a.tmps[96]? = some (.bool false) := by rw [ha]; exact putSel_on (e := (2, 96, .bool false)) 2 rfl rfl (hon 2 (by kernel_rfl)) rfl
              replace ha := Aside0.mk ha
              have KB_ := Aside0.mk Q_KB_
              have c0_ : w'.cell? ⟨gw, 0, none⟩ = some (.string v.f0) := (blk_cell (blk_below Hw.out KB_.out) 0).trans rfl
              have c1_ : w'.cell? ⟨gw, 1, none⟩ = some (.string v.f1) := (blk_cell (blk_below Hw.out KB_.out) 1).trans rfl
              refine value_ (w1 := w') (v := .agg #[.string v.f0, .string v.f1]) (wanted_on rfl rfl rfl (e96.trans (by first | rfl | (simp [*]; done)))) rfl ?_ ?_
              · go_simp
                (try simp only [i64_w])
                try rfl
              refine hK.out _ _ ⟨(by rw [ha.out]; exact putSel_upk 7 hb_ rfl rfl rfl), Q_KB_⟩
            refine steps_cons ?_ ?_
            · rintro b a w' ⟨ha, Q_KB_⟩ hb_ hon hoff
              refine ⟨_, rfl, fun K hK => ?_⟩
              have e99 : a.tmps[99]? = some (.slice (some ad) g.length c) := by rw [ha]; exact putSel_on (e := (5, 99, .slice (some ad) g.length c)) 5 rfl rfl (hon 5 (by kernel_rfl)) rfl
              have e100 : a.tmps[100]? = some (.agg #[.string u.f0, .string u.f1]) := by rw [ha]; exact putSel_on (e := (6, 100, .agg #[.string u.f0, .string u.f1])) 6 rfl rfl (hon 6 (by kernel_rfl)) rfl
              have e101 : a.tmps[101]? = some (.agg #[.string v.f0, .string v.f1]) := by rw [ha]; exact putSel_on (e := (7, 101, .agg #[.string v.f0, .string v.f1])) 7 rfl rfl (hon 7 (by kernel_rfl)) rfl
              have e96 : a.tmps[96]? = some (.bool false) := by rw [ha]; exact putSel_on (e := (2, 96, .bool false)) 2 rfl rfl (hon 2 (by kernel_rfl)) rfl
              replace ha := Aside0.mk ha
              have KB_ := Aside0.mk Q_KB_
              refine goes_ Tryz.func9 (by kernel_rfl) rfl #[.slice (some ad) g.length c, .agg #[.string u.f0, .string u.f1], .agg #[.string v.f0, .string v.f1]] (wanted_on rfl rfl rfl (e96.trans (by first | rfl | (simp [*]; done)))) rfl rfl (by first | (simp only [List.map_toArray, List.map_cons, List.map_nil, Act.eval, Array.getD_eq_getD_getElem?, Option.getD_some, e99, e100, e101, e96]; done) | (simp only [List.map_toArray, List.map_cons, List.map_nil, Act.eval, Array.getD_eq_getD_getElem?, Option.getD_some, e99, e100, e101, e96]; rfl)) ?_
              refine (GP.refin_calls g HA.out u v (some ad) c _ HC.out.1 (Kd.C_below HC.out.2 (below_step HL.out.be KB_.out))).mono ?_
              rintro e w2 ⟨rfl, hb⟩
              refine ⟨_, rfl, ?_⟩
              refine hK.out _ _ ⟨(by rw [ha.out]; exact putSel_upk 8 hb_ rfl rfl rfl), below_step KB_.out hb⟩
            refine steps_cons ?_ ?_
            · rintro b a w' ⟨ha, Q_KB_⟩ hb_ hon hoff
              refine ⟨_, rfl, fun K hK => ?_⟩
              have e98 : a.tmps[98]? = some (.bool (inF g u v)) := by rw [ha]; exact putSel_on (e := (4, 98, .bool (inF g u v))) 4 rfl rfl (hon 4 (by kernel_rfl)) rfl
              have e102 : a.tmps[102]? = some (.bool (inF g u v)) := by rw [ha]; exact putSel_on (e := (8, 102, .bool (inF g u v))) 8 rfl rfl (hon 8 (by kernel_rfl)) rfl
              have e96 : a.tmps[96]? = some (.bool false) := by rw [ha]; exact putSel_on (e := (2, 96, .bool false)) 2 rfl rfl (hon 2 (by kernel_rfl)) rfl
              replace ha := Aside0.mk ha
              have KB_ := Aside0.mk Q_KB_
              have hbb : (inF g u v != inF g u v) = false := by cases inF g u v <;> rfl
              refine value_ (w1 := w') (v := .bool false) (wanted_on rfl rfl rfl (e96.trans (by first | rfl | (simp [*]; done)))) rfl ?_ ?_
              · go_simp
                (try simp only [i64_w])
                try rfl
              refine hK.out _ _ ⟨(by rw [ha.out]; exact putSel_upk 9 hb_ rfl rfl rfl), Q_KB_⟩
            refine steps_cons ?_ ?_
            · rintro b a w' ⟨ha, Q_KB_⟩ hb_ hon hoff
              refine ⟨_, rfl, fun K hK => ?_⟩
              have e96 : a.tmps[96]? = some (.bool false) := by rw [ha]; exact putSel_on (e := (2, 96, .bool false)) 2 rfl rfl (hon 2 (by kernel_rfl)) rfl
              have e103 : a.tmps[103]? = some (.bool false) := by rw [ha]; exact putSel_on (e := (9, 103, .bool false)) 9 rfl rfl (hon 9 (by kernel_rfl)) rfl
              replace ha := Aside0.mk ha
              have KB_ := Aside0.mk Q_KB_
              refine value_ (w1 := w') (v := .bool false) (by rfl) rfl ?_ ?_
              · go_simp
                (try simp only [i64_w])
                try rfl
              refine hK.out _ _ ⟨(by rw [ha.out]; exact putSel_upk 10 hb_ rfl rfl rfl), Q_KB_⟩
            exact steps_nil
          rintro b a w' hall ⟨ha, Q_KB_⟩
          clear KB_
          have hb0_ := hall 0 (by kernel_rfl)
          have hb1_ := hall 1 (by kernel_rfl)
          have hb2_ := hall 2 (by kernel_rfl)
          have hb3_ := hall 3 (by kernel_rfl)
          have hb4_ := hall 4 (by kernel_rfl)
          have hb5_ := hall 5 (by kernel_rfl)
          have hb6_ := hall 6 (by kernel_rfl)
          have hb7_ := hall 7 (by kernel_rfl)
          have hb8_ := hall 8 (by kernel_rfl)
          have hb9_ := hall 9 (by kernel_rfl)
          have hb10_ := hall 10 (by kernel_rfl)
          subst ha
          simp only [putSel, hb0_, hb1_, hb2_, hb3_, hb4_, hb5_, hb6_, hb7_, hb8_, hb9_, hb10_, if_true, Act.put, List.setIfInBounds_toArray, List.set_cons_zero, List.set_cons_succ]
          have KB_ := Aside0.mk Q_KB_
          clear Q_KB_
          clear hall hb0_ hb1_ hb2_ hb3_ hb4_ hb5_ hb6_ hb7_ hb8_ hb9_ hb10_
          replace HL := Aside0.mk (HL.out.step KB_.out)
          replace HN := Aside0.mk (Kd.N_below HN.out KB_.out)
          replace HV5 := Aside0.mk (blk_below HV5.out KB_.out)
          clear KB_ H5 Hu Hw
          generalize w' = w9 at HL HN HV5 ⊢
          go_upto_region 20 with (fail)
          obtain ⟨k0, k1, k2, k3, k4, k5, k6⟩ := cells7 HV5.out
          go_cut [10] from 47 to 115 (fun v10 wx => w9 = wx ∧ v10 = .bool ((ws ++ [v]).any (inF g u)))
          case first =>
            have hany : (ws ++ [v]).any (inF g u) = (ws.any (inF g u) || inF g u v) := by simp
            have HAny := Aside0.mk hany
            clear hany
            cases hw : ws.any (inF g u) with
            | false =>
              go_wp2
              go_meet
              case rel => exact ⟨rfl, by rw [HAny.out, hw]; rfl⟩
            | true =>
              go_wp2
              go_meet
              case rel => exact ⟨rfl, by rw [HAny.out, hw]; rfl⟩
          case rest =>
            clear k0 k1 k2 k3 k4 k5 k6
            obtain ⟨rfl, rfl⟩ := hcut
            obtain ⟨ks, HKS⟩ : ∃ ks : List Xp, Aside0 (ks = ws.map uidX) := ⟨_, ⟨rfl⟩⟩
            rw [← HKS.out] at HN
            obtain ⟨B, kc, rfl⟩ := Kd.N_slice HN.out
            have hkl : (ks.length + 1) * 96 ≤ 140737488355328 := by have := HKS.out; rw [this]; simp; omega
            obtain ⟨k0, k1, k2, k3, k4, k5, k6⟩ := cells7 HL.out.kb
            obtain ⟨e0, e1, e2, e3, e4, e5, e6⟩ := cells7 HL.out.eb
            go_upto_region 11 with ((with_reducible refine gate_builtin (b := .append) (xs := #[.tmp 111, .tmp 113]) rfl ?_); at_builtin; refine Kd.N_append k36 (w0 := w2) w2.heap.size rfl (.tmp 111) (.tmp 113) 34 36 (.agg #[.int .i64 0, .bool false, .int .i64 0, .string ⟨#[]⟩, .string ⟨#[]⟩, .string ⟨#[]⟩, .slice none 0 0]) 96 rfl Tryz.underlying34 infoX rfl (by decide) (by omega) (.slice B ks.length kc) ks (uidX v) [.int .i64 4, .bool false, .int .i64 0, .string ⟨#[]⟩, .string v.f0, .string v.f1, .slice none 0 0] (fun k_ => ge + 1 ≤ k_) (fun k_ => False) rfl ?aX ?aP (fun k_ hk_ => hk_.elim) (fun k_ hk_ => by have := blk_lt HL.out.eb; omega) HN.out HL.out.be HL.out.be.size hkl ?_; (case aX => first | rfl | (simp; done)); (case aP => exact k36_mkF _ _ (uidX v) (A6 := none) (c6 := 0) (Nat.le_refl _) (Kd.F_nil _ _ _)); intro v1 w10 ho hb hg hat; have HX1 := Aside0.mk (LI.grown HL.out.toLI hb hg (fun k hk => HN.out.1 k hk)); obtain ⟨B1, kc1, rfl⟩ := Kd.N_slice ho; rw [show (ks ++ [uidX v]).length = ks.length + 1 by simp] at ho; have HN1 := Aside0.mk ho; clear ho hb hg hat k0 k1 k2 k3 k4 k5 k6 e0 e1 e2 e3 e4 e5 e6; have e6 := (cells7 HX1.out.eb).2.2.2.2.2.2; have f6 := blk_frozen HX1.out.eb 6)
            go_wp2
            go_roundw
            case rel => exact ⟨q + 1, ws ++ [v], _, by go_num, by simp, by omega, by simp [hwl], ⟨fun a ha => by rcases List.mem_append.1 ha with h | h; exact HWS.out a h; rw [List.mem_singleton.1 h]; exact HV.out⟩, ⟨HX1.out.put _⟩, ⟨by rw [List.map_append, ← HKS.out]; exact Kd.N_far (p := ⟨ge, 6, none⟩) HN1.out (fun k hk => by show k ≠ ge; omega) _⟩⟩
            case measure => simp [intOf]; omega
    · have d1 : ((q : Int) < (bs.length : Int)) = False := eq_false (by omega)
      obtain rfl : q = bs.length := by omega
      have hw0 : 0 < ws.length := by omega
      have hw8 : ws.length ≤ 8 := by omega
      obtain ⟨ks, HKS⟩ : ∃ ks : List Xp, Aside0 (ks = ws.map uidX) := ⟨_, ⟨rfl⟩⟩
      rw [← HKS.out] at HN
      obtain ⟨B, kc, rfl⟩ := Kd.N_slice HN.out
      obtain ⟨BB, HBB⟩ : ∃ BB : Bool, Aside0 (ws.any (inF g u) = BB) := ⟨_, ⟨rfl⟩⟩
      rw [HBB.out]
      have HE1 : Aside0 (∀ W gk, Below wr.heap.size wr W → W.heap[gk]? = some (.cells #[.int .i64 4, .bool false, .int .i64 0, .string ⟨#[]⟩, .string u.f0, .string u.f1, .slice none 0 0, .int .i64 6, .bool false, .int .i64 0, .string ⟨#[]⟩, .string ⟨#[]⟩, .string ⟨#[]⟩, .slice B ks.length kc] 36 (0, 0)) → Calls Tryz.prog 8 #[.slice (some ad) g.length c, .agg #[.string ⟨#[]⟩, .string ⟨#[]⟩, .string ⟨#[]⟩, .string ⟨#[]⟩, .string ⟨#[]⟩, .string ⟨#[]⟩], .agg #[.int .i64 22, .bool false, .int .i64 0, .string ⟨#[]⟩, .string ⟨#[]⟩, .string ⟨#[]⟩, .slice (some ⟨gk, 0, none⟩) 2 2]] W (Gv W (trVl BB) 0)) := ⟨fun W gk hW hk => by
        have h := ask_set g HOK.out u HU.out (some ad) c HC.out.1 ws HWS.out hw0 hw8 B kc W gk (Kd.C_below HC.out.2 (below_step HX.out.be hW))
        rw [← HKS.out, HBB.out] at h
        exact h (Kd.C_below (Kd.N_reads' HN.out).2.2 hW) hk⟩
      have HE2 : Aside0 (∀ W gk, Below wr.heap.size wr W → W.heap[gk]? = some (.cells #[.int .i64 6, .bool false, .int .i64 0, .string ⟨#[]⟩, .string ⟨#[]⟩, .string ⟨#[]⟩, .slice B ks.length kc, .int .i64 4, .bool false, .int .i64 0, .string ⟨#[]⟩, .string u.f0, .string u.f1, .slice none 0 0] 36 (0, 0)) → Calls Tryz.prog 8 #[.slice (some ad) g.length c, .agg #[.string ⟨#[]⟩, .string ⟨#[]⟩, .string ⟨#[]⟩, .string ⟨#[]⟩, .string ⟨#[]⟩, .string ⟨#[]⟩], .agg #[.int .i64 22, .bool false, .int .i64 0, .string ⟨#[]⟩, .string ⟨#[]⟩, .string ⟨#[]⟩, .slice (some ⟨gk, 0, none⟩) 2 2]] W (Gv W zVl 16)) := ⟨fun W gk hW hk => by
        have h := ask_type g HOK.out u HU.out (some ad) c HC.out.1 ws hw0 hw8 B kc W gk
        rw [← HKS.out] at h
        exact h (Kd.C_below (Kd.N_reads' HN.out).2.2 hW) hk⟩
      obtain ⟨t0, t1⟩ := cells2 HX.out.ub
      obtain ⟨e0, e1, e2, e3, e4, e5, e6⟩ := cells7 HX.out.eb
      go_upto_region 23 with (go_at_call 8; refine (HE1.out _ _ (b_al _ _) (blk_new _ _)).mono ?_; rintro e w7 ⟨K7, rfl, hV, hb⟩; obtain ⟨A7, c7, rfl⟩ := Kd.V_slice hV; have HB7 : Aside0 (Below wr.heap.size wr w7) := ⟨below_step (b_al _ _) hb⟩; clear hV hb)
      have HV7 : Aside0 ((w7.alloc (.cells #[.int .i64 1, .bool BB, .int .i64 0, .string ⟨#[]⟩, .string ⟨#[]⟩, .string ⟨#[]⟩, .slice A7 0 c7] 39)).heap[w7.heap.size]? = some (.cells #[.int .i64 1, .bool BB, .int .i64 0, .string ⟨#[]⟩, .string ⟨#[]⟩, .string ⟨#[]⟩, .slice A7 0 c7] 39 (0, 0))) := ⟨blk_new _ _⟩
      replace HB7 := Aside0.mk (below_alloc HB7.out (.cells #[.int .i64 1, .bool BB, .int .i64 0, .string ⟨#[]⟩, .string ⟨#[]⟩, .string ⟨#[]⟩, .slice A7 0 c7] 39 (0, 0)))
      clear t0 t1 e0 e1 e2 e3 e4 e5 e6
      generalize w7.alloc (.cells #[.int .i64 1, .bool BB, .int .i64 0, .string ⟨#[]⟩, .string ⟨#[]⟩, .string ⟨#[]⟩, .slice A7 0 c7] 39) = w8 at HV7 HB7 ⊢
      generalize w7.heap.size = g7 at HV7 ⊢
      have HX8 := Aside0.mk (HX.out.step HB7.out)
      obtain ⟨t0, t1⟩ := cells2 HX8.out.ub
      obtain ⟨e0, e1, e2, e3, e4, e5, e6⟩ := cells7 HX8.out.eb
      go_upto_region 24 with (go_at_call 8; refine (HE2.out _ _ (below_alloc HB7.out _) (blk_new _ _)).mono ?_; rintro e w9 ⟨K9, rfl, hV, hb⟩; obtain ⟨A9, c9, rfl⟩ := Kd.V_slice hV; have HB9 : Aside0 (Below w8.heap.size w8 w9) := ⟨below_step (b_al _ _) hb⟩; clear hV hb)
      replace HV7 := Aside0.mk (blk_alloc (blk_below HV7.out HB9.out) (.cells #[.int .i64 0, .bool false, .int .i64 0, .string ⟨#[]⟩, .string ⟨#[]⟩, .string ⟨#[]⟩, .slice A9 0 c9] 39 (0, 0)))
      replace HX := Aside0.mk ((HX8.out.step HB9.out).step (b_al w9 (.cells #[.int .i64 0, .bool false, .int .i64 0, .string ⟨#[]⟩, .string ⟨#[]⟩, .string ⟨#[]⟩, .slice A9 0 c9] 39 (0, 0))))
      clear t0 t1 e0 e1 e2 e3 e4 e5 e6 HX8 HB9 HB7
      generalize w9.alloc (.cells #[.int .i64 0, .bool false, .int .i64 0, .string ⟨#[]⟩, .string ⟨#[]⟩, .string ⟨#[]⟩, .slice A9 0 c9] 39) = w10 at HV7 HX ⊢
      obtain ⟨e0, e1, e2, e3, e4, e5, e6⟩ := cells7 HV7.out
      go_wp2
      go_ret
      exact ⟨rfl, below_step HB2.out HX.out.be⟩
end Go.Proofs.YtelibndkkokadaaGreat.EV
namespace Go.Proofs.YtelibndkkokadaaGreat.EV
open Go.RowKit Go.Proofs.YtelibndkkokadaaGreatW.PrintWords Go.Proofs.YtelibndkkokadaaGreatW.PrintLast Go.Proofs.YtelibndkkokadaaGreat.HandV Go.Proofs.YtelibndkkokadaaGreatW.PrintMore
open Go.Proofs.YtelibndkkokadaaGreat.GB
attribute [local go_sem] max2_int min2_int max_two min_two max_three min_three max_four min_four   -- for this text's walks alone
set_option linter.unusedVariables false
set_option linter.unusedSimpArgs false
-- IMPORT .EI5
theorem in_row (A0 : Option Addr) (c0 : Nat) (l0 : List S64) (a1 : Int) (A2 : Option Addr) (c2 : Nat) (l2 : List Int) (w : World) (hC0 : k64.C w A0 l0.length l0) (hc0 : l0.length ≤ c0) (hC2 : (Kd.int .i64).C w A2 l2.length l2) (hc2 : l2.length ≤ c2) : Calls Tryz.prog 3 #[.slice A0 l0.length c0, .int .i64 a1, .slice A2 l2.length c2] w fun e w' => e = .returned (.bool true) ∧ Below w.heap.size w w' := in_law l0 A0 c0 a1 l2 A2 c2 w hC0 hc0 hC2
end Go.Proofs.YtelibndkkokadaaGreat.EV
