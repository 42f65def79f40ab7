import Derived.Test.YtelibndkkokadaaGreatGB0
import Derived.Test.YtelibndkkokadaaGreatJk
import Derived.Test.YtelibndkkokadaaGreatDC6
import Derived.Test.YtelibndkkokadaaGreatDC7
import Derived.Test.YtelibndkkokadaaGreatJe
import Derived.Test.YtelibndkkokadaaGreatGB1
import Derived.Test.YtelibndkkokadaaGreatSqz
import Derived.Deep.RegionWith
import Derived.Deep.CutRange
import Derived.Deep.QuietTactic
import Derived.BigQuiet
import Derived.RegionTactic
import Derived.ChangeAlike
namespace Go.Proofs.YtelibndkkokadaaGreat.DC
open Go.RowKit Go.Proofs.YtelibndkkokadaaGreatW.PrintWords Go.Proofs.YtelibndkkokadaaGreatW.PrintLast Go.Proofs.YtelibndkkokadaaGreat.HandV Go.Proofs.YtelibndkkokadaaGreatW.PrintMore
open Go.Proofs.YtelibndkkokadaaGreat.GB
attribute [local go_sem] max2_int min2_int max_two min_two max_three min_three max_four min_four   -- for this text's walks alone
set_option linter.unusedVariables false
set_option linter.unusedSimpArgs false
-- IMPORT .DC5
-- IMPORT .DC6
-- IMPORT .DC7
-- IMPORT .B6
-- IMPORT .GB1
-- IMPORT .Sqz
-- IMPORT Derived.Deep.RegionWith
-- IMPORT Derived.Deep.CutRange
-- IMPORT Derived.Deep.QuietTactic
-- IMPORT Derived.BigQuiet
-- IMPORT Derived.RegionTactic
-- IMPORT Derived.ChangeAlike
open GA (En okL okU inF)
open GP (AnyG)
abbrev Ud := GA.U
/-- Where within lies. -/
def W14 (a m : Int) : Nat := (if Int.tmod a m < 0 then Int.tmod a m + m else Int.tmod a m).toNat
theorem W14_lt (a m : Int) (hm : 0 < m) : (W14 a m : Int) < m := by
  have h1 := Int.tmod_lt_of_pos a hm
  have h2 := GP.tmod_gt a m hm
  unfold W14
  split <;> omega
set_option maxRecDepth 100000 in
set_option maxHeartbeats 16000000 in
theorem within14_fn (a m : Int) (hm : 0 < m) (hm2 : m ≤ 1000000) (w : World) : Calls Tryz.prog 12 #[.int .i64 a, .int .i64 m] w fun e w' => e = .returned (.int .i64 (W14 a m : Int)) ∧ w' = w := by
  have h1 := Int.tmod_lt_of_pos a hm
  have h2 := GP.tmod_gt a m hm
  have hz : (m == 0) = false := beq_eq_false_iff_ne.mpr (by omega)
  by_cases h : Int.tmod a m < 0
  · have e1 : (W14 a m : Int) = Int.tmod a m + m := by unfold W14; rw [if_pos h]; omega
    have d1 : (Int.tmod a m < 0) = True := eq_true h
    have hw : IntKind.i64.wrap (Int.tmod a m + m) = Int.tmod a m + m := (i64_w _).trans (GP.wr_id (by omega) (by omega))
    rw [e1]
    clear e1
    go_enter Tryz.func12, Tryz.ntmps12
    go_wp2
    go_ret
    exact ⟨rfl, rfl⟩
  · have e1 : (W14 a m : Int) = Int.tmod a m := by unfold W14; rw [if_neg h]; omega
    have d1 : (Int.tmod a m < 0) = False := eq_false h
    rw [e1]
    clear e1
    go_enter Tryz.func12, Tryz.ntmps12
    go_wp2
    go_ret
    exact ⟨rfl, rfl⟩
/-- The boxes of the law, one after the other. -/
structure D1 (w2 : World) (gq : Nat) (P Q R : Ud) (W : World) : Prop where
  q : W.heap[gq]? = some (.cells #[.string P.f0, .string P.f1, .string Q.f0, .string Q.f1, .string R.f0, .string R.f1] 44 (0, 0))
  be : Below w2.heap.size w2 W
  l0 : w2.heap.size ≤ gq
structure D2 (w2 : World) (gq : Nat) (P Q R : Ud) (gu : Nat) (u : Ud) (W : World) : Prop extends D1 w2 gq P Q R W where
  ub : W.heap[gu]? = some (.cells #[.string u.f0, .string u.f1] 28 (0, 0))
  l1 : gq < gu
structure D3 (w2 : World) (gq : Nat) (P Q R : Ud) (gu : Nat) (u : Ud) (gs : Nat) (k : Int) (W : World) : Prop extends D2 w2 gq P Q R gu u W where
  sb : W.heap[gs]? = some (.cells #[.int .i64 k, .string u.f0, .string u.f1] 54 (0, 0))
  l2 : gu < gs
theorem D1.step {w2 : World} {gq : Nat} {P Q R : Ud} {W W' : World} (h : D1 w2 gq P Q R W) (hb : Below W.heap.size W W') : D1 w2 gq P Q R W' := ⟨blk_below h.q hb, below_step h.be hb, h.l0⟩
theorem D2.step {w2 : World} {gq : Nat} {P Q R : Ud} {gu : Nat} {u : Ud} {W W' : World} (h : D2 w2 gq P Q R gu u W) (hb : Below W.heap.size W W') : D2 w2 gq P Q R gu u W' := ⟨h.toD1.step hb, blk_below h.ub hb, h.l1⟩
theorem D3.step {w2 : World} {gq : Nat} {P Q R : Ud} {gu : Nat} {u : Ud} {gs : Nat} {k : Int} {W W' : World} (h : D3 w2 gq P Q R gu u gs k W) (hb : Below W.heap.size W W') : D3 w2 gq P Q R gu u gs k W' := ⟨h.toD2.step hb, blk_below h.sb hb, h.l2⟩
theorem D1.putP {w2 : World} {gq : Nat} {P Q R : Ud} {W : World} (h : D1 w2 gq P Q R W) (V : Ud) : D1 w2 gq V Q R ((W.setCell ⟨gq, 0, none⟩ (.string V.f0)).setCell ⟨gq, 1, none⟩ (.string V.f1)) :=
  ⟨blk_put (cs := #[.string V.f0, .string P.f1, .string Q.f0, .string Q.f1, .string R.f0, .string R.f1]) (cs' := #[.string V.f0, .string V.f1, .string Q.f0, .string Q.f1, .string R.f0, .string R.f1]) (blk_put (cs' := #[.string V.f0, .string P.f1, .string Q.f0, .string Q.f1, .string R.f0, .string R.f1]) h.q 0 _ rfl) 1 _ rfl, (h.be.setCell (p := ⟨gq, 0, none⟩) h.l0 _).setCell (p := ⟨gq, 1, none⟩) h.l0 _, h.l0⟩
theorem D1.putR {w2 : World} {gq : Nat} {P Q R : Ud} {W : World} (h : D1 w2 gq P Q R W) (V : Ud) : D1 w2 gq P Q V ((W.setCell ⟨gq, 4, none⟩ (.string V.f0)).setCell ⟨gq, 5, none⟩ (.string V.f1)) :=
  ⟨blk_put (cs := #[.string P.f0, .string P.f1, .string Q.f0, .string Q.f1, .string V.f0, .string R.f1]) (cs' := #[.string P.f0, .string P.f1, .string Q.f0, .string Q.f1, .string V.f0, .string V.f1]) (blk_put (cs' := #[.string P.f0, .string P.f1, .string Q.f0, .string Q.f1, .string V.f0, .string R.f1]) h.q 4 _ rfl) 5 _ rfl, (h.be.setCell (p := ⟨gq, 4, none⟩) h.l0 _).setCell (p := ⟨gq, 5, none⟩) h.l0 _, h.l0⟩
theorem D2.putU {w2 : World} {gq : Nat} {P Q R : Ud} {gu : Nat} {u : Ud} {W : World} (h : D2 w2 gq P Q R gu u W) (V : Ud) : D2 w2 gq P Q R gu V ((W.setCell ⟨gu, 0, none⟩ (.string V.f0)).setCell ⟨gu, 1, none⟩ (.string V.f1)) := by
  have h1 := h.l1
  have h0 := h.l0
  exact ⟨⟨blk_far (blk_far h.q (p := ⟨gu, 0, none⟩) (by show gq ≠ gu; omega) _) (p := ⟨gu, 1, none⟩) (by show gq ≠ gu; omega) _, (h.be.setCell (p := ⟨gu, 0, none⟩) (by show w2.heap.size ≤ gu; omega) _).setCell (p := ⟨gu, 1, none⟩) (by show w2.heap.size ≤ gu; omega) _, h.l0⟩, blk_put (cs := #[.string V.f0, .string u.f1]) (cs' := #[.string V.f0, .string V.f1]) (blk_put (cs' := #[.string V.f0, .string u.f1]) h.ub 0 _ rfl) 1 _ rfl, h.l1⟩
theorem D2.far {w2 : World} {gq : Nat} {P Q R : Ud} {gu : Nat} {u : Ud} {W : World} (h : D2 w2 gq P Q R gu u W) {b : Nat} (hb : gu < b) (j : Nat) (v : Value) : D2 w2 gq P Q R gu u (W.setCell ⟨b, j, none⟩ v) := by
  have h1 := h.l1
  have h0 := h.l0
  exact ⟨⟨blk_far h.q (p := ⟨b, j, none⟩) (by show gq ≠ b; omega) _, h.be.setCell (p := ⟨b, j, none⟩) (by show w2.heap.size ≤ b; omega) _, h.l0⟩, blk_far h.ub (p := ⟨b, j, none⟩) (by show gu ≠ b; omega) _, h.l1⟩
theorem D3.far {w2 : World} {gq : Nat} {P Q R : Ud} {gu : Nat} {u : Ud} {gs : Nat} {k : Int} {W : World} (h : D3 w2 gq P Q R gu u gs k W) {b : Nat} (hb : gs < b) (j : Nat) (v : Value) : D3 w2 gq P Q R gu u gs k (W.setCell ⟨b, j, none⟩ v) := by
  have h2 := h.l2
  exact ⟨h.toD2.far (by omega) j v, blk_far h.sb (p := ⟨b, j, none⟩) (by show gs ≠ b; omega) _, h.l2⟩
theorem D3.putK {w2 : World} {gq : Nat} {P Q R : Ud} {gu : Nat} {u : Ud} {gs : Nat} {k : Int} {W : World} (h : D3 w2 gq P Q R gu u gs k W) (k' : Int) : D3 w2 gq P Q R gu u gs k' (W.setCell ⟨gs, 0, none⟩ (.int .i64 k')) :=
  ⟨h.toD2.far h.l2 0 _, blk_put (cs' := #[.int .i64 k', .string u.f0, .string u.f1]) h.sb 0 _ rfl, h.l2⟩
/-- A uid in memory, the first of a row. -/
theorem uid0 {W : World} {A : Option Addr} {l : List Ud} (h : k28.C W A l.length l) (hl : 0 < l.length) : ∃ ad, A = some ad ∧ W.cell? ad = some (.string l[0].f0) ∧ W.cell? ⟨ad.block, ad.off + 1, none⟩ = some (.string l[0].f1) := by
  obtain ⟨ad, e, g0, g1⟩ := at_T28 h 0 (by decide) (by omega)
  have hrd : rd_T28 l (0 : Int) = l[0] := by
    unfold rd_T28
    rw [show Int.toNat 0 = 0 from rfl, List.getD_eq_getElem?_getD, List.getElem?_eq_getElem hl]; rfl
  rw [hrd] at g0 g1
  have h1 : ad.add (Int.toNat 0 * 2) = ad := by simp [Addr.add]
  rw [h1] at g0 g1
  exact ⟨ad, e, g0, g1⟩
/-- An entity in memory. -/
theorem entC {W : World} {A : Option Addr} {g : List En} (h : k32.C W A g.length g) {i : Nat} (hi : i < g.length) : ∃ (ad : Addr) (A2 : Option Addr) (c2 : Nat) (A3 : Option Addr) (c3 : Nat), A = some ad ∧ W.cell? (ad.add (i * 4)) = some (.string g[i].f0.f0) ∧ W.cell? ⟨(ad.add (i * 4)).block, (ad.add (i * 4)).off + 1, none⟩ = some (.string g[i].f0.f1) ∧ W.cell? ⟨(ad.add (i * 4)).block, (ad.add (i * 4)).off + 2, none⟩ = some (.slice A2 g[i].f1.length c2) ∧ W.cell? ⟨(ad.add (i * 4)).block, (ad.add (i * 4)).off + 3, none⟩ = some (.slice A3 g[i].f2.length c3) ∧ g[i].f1.length ≤ c2 ∧ k28.C W A2 g[i].f1.length g[i].f1 := by
  obtain ⟨ad, A2, c2, A3, c3, e, g0, g1, g2, g3, l2, h2, _, _⟩ := at_T32 h (i : Int) (by omega) (by omega)
  have hrd : rd_T32 g (i : Int) = g[i] := by
    unfold rd_T32
    rw [Int.toNat_natCast, List.getD_eq_getElem?_getD, List.getElem?_eq_getElem hi]; rfl
  rw [hrd] at g0 g1 g2 g3 l2 h2
  rw [Int.toNat_natCast] at g0 g1 g2 g3
  exact ⟨ad, A2, c2, A3, c3, e, g0, g1, g2, g3, l2, h2⟩
structure D4 (w2 : World) (gq : Nat) (P Q R : Ud) (gu : Nat) (u : Ud) (gs : Nat) (k : Int) (gp gi : Nat) (pc : Array Value) (v : Ud) (W : World) : Prop extends D3 w2 gq P Q R gu u gs k W where
  pb : W.heap[gp]? = some (.cells pc 57 (0, 0))
  ib : W.heap[gi]? = some (.cells #[.string v.f0, .string v.f1] 28 (0, 0))
  l3 : gs < gp
  l4 : gp < gi
theorem D4.step {w2 : World} {gq : Nat} {P Q R : Ud} {gu : Nat} {u : Ud} {gs : Nat} {k : Int} {gp gi : Nat} {pc : Array Value} {v : Ud} {W W' : World} (h : D4 w2 gq P Q R gu u gs k gp gi pc v W) (hb : Below W.heap.size W W') : D4 w2 gq P Q R gu u gs k gp gi pc v W' := ⟨h.toD3.step hb, blk_below h.pb hb, blk_below h.ib hb, h.l3, h.l4⟩
theorem c11' {W : World} {g : Nat} {t : TypeId} {a0 a1 a2 a3 a4 a5 a6 a7 a8 a9 a10 : Value} (h : W.heap[g]? = some (.cells #[a0, a1, a2, a3, a4, a5, a6, a7, a8, a9, a10] t (0, 0))) : W.cell? ⟨g, 0, none⟩ = some a0 := (blk_cell h 0).trans rfl
/-- Are two uids the same? -/
def eqU (v u : Ud) : Bool := v.f0.toList == u.f0.toList && (v.f1.toList == u.f1.toList)
theorem one_all (A : Option Addr) (n c : Nat) (p0 p1 p2 p3 p4 p5 : ByteArray) (fb : Bool) (k1 : Int) (t1 i1 : ByteArray) (k2 : Int) (t2 i2 : ByteArray) (k3 : Int) (t3 i3 : ByteArray) (s1 s2 s3 : Bool) (w : World)
    (H1 : ∀ W, Below w.heap.size w W → Calls Tryz.prog 26 #[.slice A n c, .agg #[.int .i64 k1, .string t1, .string i1], .agg #[.string p0, .string p1]] W fun e w' => e = .returned (.bool s1) ∧ Below W.heap.size W w')
    (H2 : ∀ W, Below w.heap.size w W → Calls Tryz.prog 26 #[.slice A n c, .agg #[.int .i64 k2, .string t2, .string i2], .agg #[.string p2, .string p3]] W fun e w' => e = .returned (.bool s2) ∧ Below W.heap.size W w')
    (H3 : ∀ W, Below w.heap.size w W → Calls Tryz.prog 26 #[.slice A n c, .agg #[.int .i64 k3, .string t3, .string i3], .agg #[.string p4, .string p5]] W fun e w' => e = .returned (.bool s3) ∧ Below W.heap.size W w') : Calls Tryz.prog 14 #[.slice A n c, .agg #[.string p0, .string p1, .string p2, .string p3, .string p4, .string p5], .agg #[.bool fb, .int .i64 k1, .string t1, .string i1, .int .i64 k2, .string t2, .string i2, .int .i64 k3, .string t3, .string i3, .slice none 0 0]] w fun e w' => e = .returned (.tuple #[.bool (s1 && (s2 && s3)), .int .i64 0]) ∧ Below w.heap.size w w' := by
  cases s1 with
  | false => exact one_f A n c p0 p1 p2 p3 p4 p5 fb k1 t1 i1 k2 t2 i2 k3 t3 i3 w H1
  | true => cases s2 with
    | false => exact one_tf A n c p0 p1 p2 p3 p4 p5 fb k1 t1 i1 k2 t2 i2 k3 t3 i3 w H1 H2
    | true => cases s3 with
      | false => exact one_ttf A n c p0 p1 p2 p3 p4 p5 fb k1 t1 i1 k2 t2 i2 k3 t3 i3 w H1 H2 H3
      | true => exact one_ttt A n c p0 p1 p2 p3 p4 p5 fb k1 t1 i1 k2 t2 i2 k3 t3 i3 w H1 H2 H3
set_option maxRecDepth 100000 in
set_option maxHeartbeats 16000000 in
theorem scopes_calls (l0 : List S64) (A0 : Option Addr) (c0 : Nat) (ns : List Int) (A1 : Option Addr) (c1 : Nat) (wh n : Int) (bi : Bool) (w : World) (hr : k64.C w A0 l0.length l0) (hc0 : l0.length ≤ c0) (hn : (Kd.int .i64).C w A1 ns.length ns) (hc1 : ns.length ≤ c1) : Calls Tryz.prog 4 #[.slice A0 l0.length c0, .slice A1 ns.length c1, .int .i64 wh, .int .i64 n, .bool bi] w fun e w' => e = .returned (.bool true) ∧ Below w.heap.size w w' := by
  have HR := Aside0.mk hr
  have HC0 := Aside0.mk hc0
  have HN1 := Aside0.mk hn
  have HC1 := Aside0.mk hc1
  clear hr hc0 hn hc1
  go_enter Tryz.func4, Tryz.ntmps4
  go_upto_if 30 with (first | (go_at_call 10; refine (known14_calls _).mono ?_; rintro e w1 ⟨rfl, hb⟩; have HB1 := Aside0.mk hb; clear hb) | (go_at_call 6; refine (GA.rgood8 l0 A0 c0 _ (Kd.C_below HR.out HB1.out) HC0.out).mono ?_; rintro e w2 ⟨v, g, rfl, hA, hN, hb⟩; have HA := Aside0.mk hA; obtain ⟨A, c, rfl⟩ := Kd.N_slice hN; have HC := Aside0.mk (Kd.N_reads' hN).2; have HB2 := Aside0.mk (below_step HB1.out hb); clear hA hN hb) | (go_at_call 11; refine (request_calls A g.length c ns A1 c1 _ HC1.out (Kd.C_below HN1.out HB2.out)).mono ?_; rintro e w3 ⟨p0, p1, p2, p3, p4, p5, rfl, ho0, ho1, ho2, hb⟩; have HO0 := Aside0.mk ho0; have HO1 := Aside0.mk ho1; have HO2 := Aside0.mk ho2; have HX : Aside0 (D1 w2 w3.heap.size ⟨p0, p1⟩ ⟨p2, p3⟩ ⟨p4, p5⟩ (w3.alloc (.cells #[.string p0, .string p1, .string p2, .string p3, .string p4, .string p5] 44))) := ⟨⟨blk_new _ _, below_alloc hb _, hb.size⟩⟩; clear hb ho0 ho1 ho2))
  have hl12 := HA.out.2.2
  have HOK := Aside0.mk (GP.anyG_ok HA.out)
  generalize w3.alloc (.cells #[.string p0, .string p1, .string p2, .string p3, .string p4, .string p5] 44) = w4 at HX ⊢
  generalize w3.heap.size = gq at HX ⊢
  go_cut [12] from 20 to 49 (fun v12 wx => v12 = .pointer (some ⟨gq, 0, none⟩) ∧ ∃ P Q R : Ud, Aside0 (okU P = true) ∧ Aside0 (okU Q = true) ∧ Aside0 (okU R = true) ∧ Aside0 (D1 w2 gq P Q R wx))
  case first =>
    by_cases hg : 0 < g.length
    · have d1 : ((0 : Int) < (g.length : Int)) = True := eq_true (by omega)
      have hr1 := W14_lt n (g.length : Int) (by omega)
      have e1 : ((W14 n (g.length : Int) : Int) < (g.length : Int)) = True := eq_true hr1
      have hi1 : W14 n (g.length : Int) < g.length := by omega
      obtain ⟨ad, B2, d2, B3, d3, rfl, x0, x1, _, _, _, _⟩ := entC (Kd.C_below HC.out.2 HX.out.be) hi1
      obtain ⟨y0, y1, y2, y3, y4, y5⟩ := c6 HX.out.q
      have f0 := blk_frozen HX.out.q 0
      have f1 := blk_frozen HX.out.q 1
      have f4 := blk_frozen HX.out.q 4
      have f5 := blk_frozen HX.out.q 5
      go_upto_region 7 with (go_at_call 12; refine (within14_fn _ _ (by omega) (by omega) _).mono ?_; rintro e wj ⟨rfl, hw⟩; rw [hw]; clear hw)
      replace HX := Aside0.mk (HX.out.putP g[W14 n (g.length : Int)].f0)
      generalize (w4.setCell ⟨gq, 0, none⟩ (.string g[W14 n (g.length : Int)].f0.f0)).setCell ⟨gq, 1, none⟩ (.string g[W14 n (g.length : Int)].f0.f1) = w5 at HX ⊢
      have HP := Aside0.mk (GA.okL_mem HOK.out (List.getElem_mem hi1)).1
      clear x0 x1 y0 y1 y2 y3 y4 y5 f0 f1 f4 f5 e1
      generalize g[W14 n (g.length : Int)].f0 = P' at HX HP ⊢
      have hr2 := W14_lt (wrap64 (Int.tdiv n 5)) (g.length : Int) (by omega)
      have e2 : ((W14 (wrap64 (Int.tdiv n 5)) (g.length : Int) : Int) < (g.length : Int)) = True := eq_true hr2
      have hi2 : W14 (wrap64 (Int.tdiv n 5)) (g.length : Int) < g.length := by omega
      obtain ⟨ad', B2', d2', B3', d3', ead, x0, x1, _, _, _, _⟩ := entC (Kd.C_below HC.out.2 HX.out.be) hi2
      cases ead
      obtain ⟨y0, y1, y2, y3, y4, y5⟩ := c6 HX.out.q
      have f0 := blk_frozen HX.out.q 0
      have f1 := blk_frozen HX.out.q 1
      have f4 := blk_frozen HX.out.q 4
      have f5 := blk_frozen HX.out.q 5
      go_wp2_with (go_at_call 12; refine (within14_fn _ _ (by omega) (by omega) _).mono ?_; rintro e wj ⟨rfl, hw⟩; rw [hw]; clear hw)
      go_meet
      case rel => exact ⟨rfl, _, _, _, HP, HO1, Aside0.mk (GA.okL_mem HOK.out (List.getElem_mem hi2)).1, Aside0.mk (HX.out.putR _)⟩
    · have d1 : ((0 : Int) < (g.length : Int)) = False := eq_false (by omega)
      go_wp2
      go_meet
      case rel => exact ⟨rfl, _, _, _, HO0, HO1, HO2, HX⟩
  case rest =>
    clear HX HO0 HO1 HO2
    obtain ⟨rfl, P, Q, R, HP, HQ, HRr, HX⟩ := hcut
    go_upto_if 54 with (go_at_call 13; refine (uid_calls _ _).mono ?_; rintro e w6 ⟨ut, ui, rfl, ho, hb⟩; have HOu := Aside0.mk ho; have HY : Aside0 (D2 w2 gq P Q R w6.heap.size ⟨ut, ui⟩ (w6.alloc (.cells #[.string ut, .string ui] 28))) := ⟨⟨(HX.out.step hb).step (below_alloc (Below.refl _ _) _), blk_new _ _, blk_lt (HX.out.step hb).q⟩⟩; clear ho hb)
    clear HX
    generalize w6.alloc (.cells #[.string ut, .string ui] 28) = w7 at HY ⊢
    generalize w6.heap.size = gu at HY ⊢
    go_cut [13] from 20 to 90 (fun v13 wx => v13 = .pointer (some ⟨gu, 0, none⟩) ∧ ∃ u : Ud, Aside0 (okU u = true) ∧ Aside0 (D2 w2 gq P Q R gu u wx))
    case first =>
      by_cases hg : 0 < g.length
      · have d1 : ((0 : Int) < (g.length : Int)) = True := eq_true (by omega)
        have hr3 := W14_lt (wrap64 (Int.tdiv n 25)) (g.length : Int) (by omega)
        have e3 : ((W14 (wrap64 (Int.tdiv n 25)) (g.length : Int) : Int) < (g.length : Int)) = True := eq_true hr3
        have hi3 : W14 (wrap64 (Int.tdiv n 25)) (g.length : Int) < g.length := by omega
        obtain ⟨ad, B2, d2, B3, d3, rfl, x0, x1, x2, x3, lq, hq⟩ := entC (Kd.C_below HC.out.2 HY.out.be) hi3
        have HQ2 := Aside0.mk hq
        obtain ⟨y0, y1⟩ := c2 HY.out.ub
        have f0 := blk_frozen HY.out.ub 0
        have f1 := blk_frozen HY.out.ub 1
        clear hq
        go_upto_region 11 with (go_at_call 12; refine (within14_fn _ _ (by omega) (by omega) _).mono ?_; rintro e wj ⟨rfl, hw⟩; rw [hw]; clear hw)
        replace HY := Aside0.mk (HY.out.putU g[W14 (wrap64 (Int.tdiv n 25)) (g.length : Int)].f0)
        have HOk := Aside0.mk (GA.okL_mem HOK.out (List.getElem_mem hi3))
        clear x0 x1 x2 x3 y0 y1 f0 f1
        generalize (w7.setCell ⟨gu, 0, none⟩ (.string g[W14 (wrap64 (Int.tdiv n 25)) (g.length : Int)].f0.f0)).setCell ⟨gu, 1, none⟩ (.string g[W14 (wrap64 (Int.tdiv n 25)) (g.length : Int)].f0.f1) = w8 at HY ⊢
        obtain ⟨ad', B2', d2', B3', d3', ead, x0, x1, x2, x3, _, hq⟩ := entC (Kd.C_below HC.out.2 HY.out.be) hi3
        cases ead
        have y0 : w8.cell? ⟨gu, 0, none⟩ = some (.string g[W14 (wrap64 (Int.tdiv n 25)) (g.length : Int)].f0.f0) := (blk_cell HY.out.ub 0).trans rfl
        have y1 : w8.cell? ⟨gu, 1, none⟩ = some (.string g[W14 (wrap64 (Int.tdiv n 25)) (g.length : Int)].f0.f1) := (blk_cell HY.out.ub 1).trans rfl
        have f0 := blk_frozen HY.out.ub 0
        have f1 := blk_frozen HY.out.ub 1
        by_cases hp : 0 < g[W14 (wrap64 (Int.tdiv n 25)) (g.length : Int)].f1.length
        · have dp : ((0 : Int) < (g[W14 (wrap64 (Int.tdiv n 25)) (g.length : Int)].f1.length : Int)) = True := eq_true (by omega)
          obtain ⟨ad2, rfl, u0, u1⟩ := uid0 hq hp
          clear hq
          by_cases hm : Int.tmod n 3 = 0
          · have dm : (Int.tmod n 3 == 0) = true := by rw [hm]; rfl
            clear hm
            go_wp2_with (go_at_call 12; refine (within14_fn _ _ (by omega) (by omega) _).mono ?_; rintro e wj ⟨rfl, hw⟩; rw [hw]; clear hw)
            go_meet
            case rel => exact ⟨rfl, _, Aside0.mk (HOk.out.2.1 _ (List.getElem_mem hp)), Aside0.mk (HY.out.putU _)⟩
          · have dm : (Int.tmod n 3 == 0) = false := beq_eq_false_iff_ne.mpr hm
            clear hm
            go_wp2_with (go_at_call 12; refine (within14_fn _ _ (by omega) (by omega) _).mono ?_; rintro e wj ⟨rfl, hw⟩; rw [hw]; clear hw)
            go_meet
            case rel => exact ⟨rfl, _, Aside0.mk HOk.out.1, HY⟩
        · have dp : ((0 : Int) < (g[W14 (wrap64 (Int.tdiv n 25)) (g.length : Int)].f1.length : Int)) = False := eq_false (by omega)
          clear hq
          go_wp2_with (go_at_call 12; refine (within14_fn _ _ (by omega) (by omega) _).mono ?_; rintro e wj ⟨rfl, hw⟩; rw [hw]; clear hw)
          go_meet
          case rel => exact ⟨rfl, _, Aside0.mk HOk.out.1, HY⟩
      · have d1 : ((0 : Int) < (g.length : Int)) = False := eq_false (by omega)
        go_wp2
        go_meet
        case rel => exact ⟨rfl, _, HOu, HY⟩
    case rest =>
      clear HY HOu
      obtain ⟨rfl, u, HU, HY⟩ := hcut
      obtain ⟨y0, y1⟩ := c2 HY.out.ub
      go_upto_if 93 with (fail)
      have HZ : Aside0 (D3 w2 gq P Q R gu u wc.heap.size 1 (wc.alloc (.cells #[.int .i64 1, .string u.f0, .string u.f1] 54))) := ⟨⟨HY.out.step (below_alloc (Below.refl _ _) _), blk_new _ _, blk_lt HY.out.ub⟩⟩
      clear HY y0 y1
      generalize wc.alloc (.cells #[.int .i64 1, .string u.f0, .string u.f1] 54) = w9 at HZ ⊢
      generalize wc.heap.size = gs at HZ ⊢
      go_cut [14] from 20 to 97 (fun v14 wx => v14 = .pointer (some ⟨gs, 0, none⟩) ∧ Aside0 (D3 w2 gq P Q R gu u gs (if bi = true then 2 else 1) wx))
      case first =>
        cases bi with
        | true =>
          have y0 : w9.cell? ⟨gs, 0, none⟩ = some (.int .i64 1) := (blk_cell HZ.out.sb 0).trans rfl
          have f0 := blk_frozen HZ.out.sb 0
          go_wp2
          go_meet
          case rel => exact ⟨rfl, Aside0.mk (HZ.out.putK 2)⟩
        | false =>
          go_wp2
          go_meet
          case rel => exact ⟨rfl, HZ⟩
      case rest =>
        clear HZ
        obtain ⟨rfl, HZ⟩ := hcut
        obtain ⟨y0, y1, y2, y3, y4, y5⟩ := c6 HZ.out.q
        have hsz := blk_lt HZ.out.q
        go_upto_region 18 with (fail)
        have HD0 : Aside0 (D4 w2 gq P Q R gu u gs (if bi = true then 2 else 1) wc.heap.size (wc.heap.size + 1) #[.bool false, .int .i64 0, .string ⟨#[]⟩, .string ⟨#[]⟩, .int .i64 0, .string ⟨#[]⟩, .string ⟨#[]⟩, .int .i64 0, .string ⟨#[]⟩, .string ⟨#[]⟩, .slice none 0 0] P ((wc.alloc (.cells #[.bool false, .int .i64 0, .string ⟨#[]⟩, .string ⟨#[]⟩, .int .i64 0, .string ⟨#[]⟩, .string ⟨#[]⟩, .int .i64 0, .string ⟨#[]⟩, .string ⟨#[]⟩, .slice none 0 0] 57)).alloc (.cells #[.string P.f0, .string P.f1] 28))) := ⟨⟨(HZ.out.step (below_alloc (Below.refl _ _) _)).step (below_alloc (Below.refl _ _) _), blk_alloc (blk_new _ _) _, bnew2 _ _ _, blk_lt HZ.out.sb, Nat.lt_succ_self _⟩⟩
        clear y0 y1 y2 y3 y4 y5 hsz HZ
        generalize (wc.alloc (.cells #[.bool false, .int .i64 0, .string ⟨#[]⟩, .string ⟨#[]⟩, .int .i64 0, .string ⟨#[]⟩, .string ⟨#[]⟩, .int .i64 0, .string ⟨#[]⟩, .string ⟨#[]⟩, .slice none 0 0] 57)).alloc (.cells #[.string P.f0, .string P.f1] 28) = w10 at HD0 ⊢
        generalize wc.heap.size + 1 = gi at HD0 ⊢
        generalize wc.heap.size = gp at HD0 ⊢
        have hr3 := W14_lt wh 3 (by decide)
        have hr : W14 wh 3 = 0 ∨ W14 wh 3 = 1 ∨ W14 wh 3 = 2 := by omega
        clear hr3
        cases bi with
        | false =>
          rcases hr with hq | hq | hq
          · skip
            have HOne : Aside0 (∀ W, Below w2.heap.size w2 W → Calls Tryz.prog 14 #[.slice A g.length c, .agg #[.string P.f0, .string P.f1, .string Q.f0, .string Q.f1, .string R.f0, .string R.f1], .agg #[.bool false, .int .i64 1, .string u.f0, .string u.f1, .int .i64 0, .string ⟨#[]⟩, .string ⟨#[]⟩, .int .i64 0, .string ⟨#[]⟩, .string ⟨#[]⟩, .slice none 0 0]] W fun e w' => e = .returned (.tuple #[.bool (eqU P u), .int .i64 0]) ∧ Below W.heap.size W w') := ⟨fun W hW0 => by
              have h := one_all A g.length c P.f0 P.f1 Q.f0 Q.f1 R.f0 R.f1 false 1 u.f0 u.f1 0 ⟨#[]⟩ ⟨#[]⟩ 0 ⟨#[]⟩ ⟨#[]⟩ (eqU P u) true true W (fun W _ => scope_same A g.length c _ _ _ _ W) (fun W _ => scope_any A g.length c _ _ _ _ W) (fun W _ => scope_any A g.length c _ _ _ _ W)
              have e : ((eqU P u) && (true && true)) = (eqU P u) := by cases (eqU P u) <;> rfl
              rw [e] at h
              exact h⟩
            have HWr : Aside0 (∀ W, Calls Tryz.prog 12 #[.int .i64 wh, .int .i64 3] W fun e w' => e = .returned (.int .i64 0) ∧ w' = W) := ⟨fun W => by have h := within14_fn wh 3 (by decide) (by decide) W; rw [hq] at h; exact h⟩
            clear hq
            have HD : Aside0 (D4 w2 gq P Q R gu u gs 1 gp gi #[.bool false, .int .i64 0, .string ⟨#[]⟩, .string ⟨#[]⟩, .int .i64 0, .string ⟨#[]⟩, .string ⟨#[]⟩, .int .i64 0, .string ⟨#[]⟩, .string ⟨#[]⟩, .slice none 0 0] P w10) := HD0
            obtain ⟨s0, s1, s2⟩ := c3 HD.out.sb
            obtain ⟨y0, y1, y2, y3, y4, y5⟩ := c6 HD.out.q
            obtain ⟨z1, z2, z3, z4, z5, z6, z7, z8, z9, z10⟩ := c11 HD.out.pb
            obtain ⟨i0, i1⟩ := c2 HD.out.ib
            have m0 := blk_frozen HD.out.ib 0
            have m1 := blk_frozen HD.out.ib 1
            have f1 := blk_frozen HD.out.pb 1
            have f2 := blk_frozen HD.out.pb 2
            have f3 := blk_frozen HD.out.pb 3
            have f4 := blk_frozen HD.out.pb 4
            have f5 := blk_frozen HD.out.pb 5
            have f6 := blk_frozen HD.out.pb 6
            have f7 := blk_frozen HD.out.pb 7
            have f8 := blk_frozen HD.out.pb 8
            have f9 := blk_frozen HD.out.pb 9
            go_upto_region 25 with (go_at_call 12; refine (HWr.out _).mono ?_; rintro e wj ⟨rfl, hw⟩; rw [hw]; clear hw)
            have HE : Aside0 (D4 w2 gq P Q R gu u gs 1 gp gi #[.bool false, .int .i64 1, .string u.f0, .string u.f1, .int .i64 0, .string ⟨#[]⟩, .string ⟨#[]⟩, .int .i64 0, .string ⟨#[]⟩, .string ⟨#[]⟩, .slice none 0 0] P (((w10.setCell ⟨gp, 1, none⟩ (.int .i64 1)).setCell ⟨gp, 2, none⟩ (.string u.f0)).setCell ⟨gp, 3, none⟩ (.string u.f1))) := ⟨⟨((HD.out.toD3.far HD.out.l3 1 _).far HD.out.l3 2 _).far HD.out.l3 3 _, blk_put (cs := #[.bool false, .int .i64 1, .string u.f0, .string ⟨#[]⟩, .int .i64 0, .string ⟨#[]⟩, .string ⟨#[]⟩, .int .i64 0, .string ⟨#[]⟩, .string ⟨#[]⟩, .slice none 0 0]) (cs' := #[.bool false, .int .i64 1, .string u.f0, .string u.f1, .int .i64 0, .string ⟨#[]⟩, .string ⟨#[]⟩, .int .i64 0, .string ⟨#[]⟩, .string ⟨#[]⟩, .slice none 0 0]) (blk_put (cs := #[.bool false, .int .i64 1, .string ⟨#[]⟩, .string ⟨#[]⟩, .int .i64 0, .string ⟨#[]⟩, .string ⟨#[]⟩, .int .i64 0, .string ⟨#[]⟩, .string ⟨#[]⟩, .slice none 0 0]) (cs' := #[.bool false, .int .i64 1, .string u.f0, .string ⟨#[]⟩, .int .i64 0, .string ⟨#[]⟩, .string ⟨#[]⟩, .int .i64 0, .string ⟨#[]⟩, .string ⟨#[]⟩, .slice none 0 0]) (blk_put (cs := #[.bool false, .int .i64 0, .string ⟨#[]⟩, .string ⟨#[]⟩, .int .i64 0, .string ⟨#[]⟩, .string ⟨#[]⟩, .int .i64 0, .string ⟨#[]⟩, .string ⟨#[]⟩, .slice none 0 0]) (cs' := #[.bool false, .int .i64 1, .string ⟨#[]⟩, .string ⟨#[]⟩, .int .i64 0, .string ⟨#[]⟩, .string ⟨#[]⟩, .int .i64 0, .string ⟨#[]⟩, .string ⟨#[]⟩, .slice none 0 0]) (HD.out.pb) 1 _ rfl) 2 _ rfl) 3 _ rfl, blk_far (blk_far (blk_far HD.out.ib (p := ⟨gp, 1, none⟩) (Nat.ne_of_gt HD.out.l4) _) (p := ⟨gp, 2, none⟩) (Nat.ne_of_gt HD.out.l4) _) (p := ⟨gp, 3, none⟩) (Nat.ne_of_gt HD.out.l4) _, HD.out.l3, HD.out.l4⟩⟩
            clear s0 s1 s2 y0 y1 y2 y3 y4 y5 z1 z2 z3 z4 z5 z6 z7 z8 z9 z10 i0 i1 m0 m1 f1 f2 f3 f4 f5 f6 f7 f8 f9 HD HWr
            generalize ((w10.setCell ⟨gp, 1, none⟩ (.int .i64 1)).setCell ⟨gp, 2, none⟩ (.string u.f0)).setCell ⟨gp, 3, none⟩ (.string u.f1) = w11 at HE ⊢
            obtain ⟨y0, y1, y2, y3, y4, y5⟩ := c6 HE.out.q
            have z0 := c11' HE.out.pb
            obtain ⟨z1, z2, z3, z4, z5, z6, z7, z8, z9, z10⟩ := c11 HE.out.pb
            go_upto_region 26 with (go_at_call 14; refine (HOne.out _ HE.out.be).mono ?_; rintro e w12 ⟨rfl, hb⟩; replace HE := Aside0.mk (HE.out.step hb); clear hb)
            clear y0 y1 y2 y3 y4 y5 z0 z1 z2 z3 z4 z5 z6 z7 z8 z9 z10 HOne
            obtain ⟨i0, i1⟩ := c2 HE.out.ib
            obtain ⟨u0, u1⟩ := c2 HE.out.ub
            unfold eqU
            cases bx : (P.f0.toList == u.f0.toList) <;> cases b2 : (P.f1.toList == u.f1.toList)
            all_goals
              go_wp2
              go_ret
              exact ⟨rfl, below_step HB2.out HE.out.be⟩
          · skip
            have HOne : Aside0 (∀ W, Below w2.heap.size w2 W → Calls Tryz.prog 14 #[.slice A g.length c, .agg #[.string P.f0, .string P.f1, .string Q.f0, .string Q.f1, .string R.f0, .string R.f1], .agg #[.bool false, .int .i64 0, .string ⟨#[]⟩, .string ⟨#[]⟩, .int .i64 1, .string u.f0, .string u.f1, .int .i64 0, .string ⟨#[]⟩, .string ⟨#[]⟩, .slice none 0 0]] W fun e w' => e = .returned (.tuple #[.bool (eqU Q u), .int .i64 0]) ∧ Below W.heap.size W w') := ⟨fun W hW0 => by
              have h := one_all A g.length c P.f0 P.f1 Q.f0 Q.f1 R.f0 R.f1 false 0 ⟨#[]⟩ ⟨#[]⟩ 1 u.f0 u.f1 0 ⟨#[]⟩ ⟨#[]⟩ true (eqU Q u) true W (fun W _ => scope_any A g.length c _ _ _ _ W) (fun W _ => scope_same A g.length c _ _ _ _ W) (fun W _ => scope_any A g.length c _ _ _ _ W)
              have e : (true && ((eqU Q u) && true)) = (eqU Q u) := by cases (eqU Q u) <;> rfl
              rw [e] at h
              exact h⟩
            have HWr : Aside0 (∀ W, Calls Tryz.prog 12 #[.int .i64 wh, .int .i64 3] W fun e w' => e = .returned (.int .i64 1) ∧ w' = W) := ⟨fun W => by have h := within14_fn wh 3 (by decide) (by decide) W; rw [hq] at h; exact h⟩
            clear hq
            have HD : Aside0 (D4 w2 gq P Q R gu u gs 1 gp gi #[.bool false, .int .i64 0, .string ⟨#[]⟩, .string ⟨#[]⟩, .int .i64 0, .string ⟨#[]⟩, .string ⟨#[]⟩, .int .i64 0, .string ⟨#[]⟩, .string ⟨#[]⟩, .slice none 0 0] P w10) := HD0
            obtain ⟨s0, s1, s2⟩ := c3 HD.out.sb
            obtain ⟨y0, y1, y2, y3, y4, y5⟩ := c6 HD.out.q
            obtain ⟨z1, z2, z3, z4, z5, z6, z7, z8, z9, z10⟩ := c11 HD.out.pb
            obtain ⟨i0, i1⟩ := c2 HD.out.ib
            have m0 := blk_frozen HD.out.ib 0
            have m1 := blk_frozen HD.out.ib 1
            have f1 := blk_frozen HD.out.pb 1
            have f2 := blk_frozen HD.out.pb 2
            have f3 := blk_frozen HD.out.pb 3
            have f4 := blk_frozen HD.out.pb 4
            have f5 := blk_frozen HD.out.pb 5
            have f6 := blk_frozen HD.out.pb 6
            have f7 := blk_frozen HD.out.pb 7
            have f8 := blk_frozen HD.out.pb 8
            have f9 := blk_frozen HD.out.pb 9
            go_upto_region 22 with (go_at_call 12; refine (HWr.out _).mono ?_; rintro e wj ⟨rfl, hw⟩; rw [hw]; clear hw)
            go_region
            have HE : Aside0 (D4 w2 gq P Q R gu u gs 1 gp gi #[.bool false, .int .i64 0, .string ⟨#[]⟩, .string ⟨#[]⟩, .int .i64 1, .string u.f0, .string u.f1, .int .i64 0, .string ⟨#[]⟩, .string ⟨#[]⟩, .slice none 0 0] Q (((((w10.setCell ⟨gp, 4, none⟩ (.int .i64 1)).setCell ⟨gp, 5, none⟩ (.string u.f0)).setCell ⟨gp, 6, none⟩ (.string u.f1)).setCell ⟨gi, 0, none⟩ (.string Q.f0)).setCell ⟨gi, 1, none⟩ (.string Q.f1))) := ⟨⟨((((HD.out.toD3.far HD.out.l3 4 _).far HD.out.l3 5 _).far HD.out.l3 6 _).far (Nat.lt_trans HD.out.l3 HD.out.l4) 0 _).far (Nat.lt_trans HD.out.l3 HD.out.l4) 1 _, blk_far (blk_far (blk_put (cs := #[.bool false, .int .i64 0, .string ⟨#[]⟩, .string ⟨#[]⟩, .int .i64 1, .string u.f0, .string ⟨#[]⟩, .int .i64 0, .string ⟨#[]⟩, .string ⟨#[]⟩, .slice none 0 0]) (cs' := #[.bool false, .int .i64 0, .string ⟨#[]⟩, .string ⟨#[]⟩, .int .i64 1, .string u.f0, .string u.f1, .int .i64 0, .string ⟨#[]⟩, .string ⟨#[]⟩, .slice none 0 0]) (blk_put (cs := #[.bool false, .int .i64 0, .string ⟨#[]⟩, .string ⟨#[]⟩, .int .i64 1, .string ⟨#[]⟩, .string ⟨#[]⟩, .int .i64 0, .string ⟨#[]⟩, .string ⟨#[]⟩, .slice none 0 0]) (cs' := #[.bool false, .int .i64 0, .string ⟨#[]⟩, .string ⟨#[]⟩, .int .i64 1, .string u.f0, .string ⟨#[]⟩, .int .i64 0, .string ⟨#[]⟩, .string ⟨#[]⟩, .slice none 0 0]) (blk_put (cs := #[.bool false, .int .i64 0, .string ⟨#[]⟩, .string ⟨#[]⟩, .int .i64 0, .string ⟨#[]⟩, .string ⟨#[]⟩, .int .i64 0, .string ⟨#[]⟩, .string ⟨#[]⟩, .slice none 0 0]) (cs' := #[.bool false, .int .i64 0, .string ⟨#[]⟩, .string ⟨#[]⟩, .int .i64 1, .string ⟨#[]⟩, .string ⟨#[]⟩, .int .i64 0, .string ⟨#[]⟩, .string ⟨#[]⟩, .slice none 0 0]) (HD.out.pb) 4 _ rfl) 5 _ rfl) 6 _ rfl) (p := ⟨gi, 0, none⟩) (Nat.ne_of_lt HD.out.l4) _) (p := ⟨gi, 1, none⟩) (Nat.ne_of_lt HD.out.l4) _, blk_put (cs := #[.string Q.f0, .string P.f1]) (cs' := #[.string Q.f0, .string Q.f1]) (blk_put (cs := #[.string P.f0, .string P.f1]) (cs' := #[.string Q.f0, .string P.f1]) (blk_far (blk_far (blk_far (HD.out.ib) (p := ⟨gp, 4, none⟩) (Nat.ne_of_gt HD.out.l4) _) (p := ⟨gp, 5, none⟩) (Nat.ne_of_gt HD.out.l4) _) (p := ⟨gp, 6, none⟩) (Nat.ne_of_gt HD.out.l4) _) 0 _ rfl) 1 _ rfl, HD.out.l3, HD.out.l4⟩⟩
            replace HE := Aside0.mk (HE.out.step (below_drew1 (Below.refl _ _)))
            clear s0 s1 s2 y0 y1 y2 y3 y4 y5 z1 z2 z3 z4 z5 z6 z7 z8 z9 z10 i0 i1 m0 m1 f1 f2 f3 f4 f5 f6 f7 f8 f9 HD HWr
            generalize (((((w10.setCell ⟨gp, 4, none⟩ (.int .i64 1)).setCell ⟨gp, 5, none⟩ (.string u.f0)).setCell ⟨gp, 6, none⟩ (.string u.f1)).setCell ⟨gi, 0, none⟩ (.string Q.f0)).setCell ⟨gi, 1, none⟩ (.string Q.f1)).drew = w11 at HE ⊢
            obtain ⟨y0, y1, y2, y3, y4, y5⟩ := c6 HE.out.q
            have z0 := c11' HE.out.pb
            obtain ⟨z1, z2, z3, z4, z5, z6, z7, z8, z9, z10⟩ := c11 HE.out.pb
            go_upto_region 26 with (go_at_call 14; refine (HOne.out _ HE.out.be).mono ?_; rintro e w12 ⟨rfl, hb⟩; replace HE := Aside0.mk (HE.out.step hb); clear hb)
            clear y0 y1 y2 y3 y4 y5 z0 z1 z2 z3 z4 z5 z6 z7 z8 z9 z10 HOne
            obtain ⟨i0, i1⟩ := c2 HE.out.ib
            obtain ⟨u0, u1⟩ := c2 HE.out.ub
            unfold eqU
            cases bx : (Q.f0.toList == u.f0.toList) <;> cases b2 : (Q.f1.toList == u.f1.toList)
            all_goals
              go_wp2
              go_ret
              exact ⟨rfl, below_step HB2.out HE.out.be⟩
          · skip
            have HOne : Aside0 (∀ W, Below w2.heap.size w2 W → Calls Tryz.prog 14 #[.slice A g.length c, .agg #[.string P.f0, .string P.f1, .string Q.f0, .string Q.f1, .string R.f0, .string R.f1], .agg #[.bool false, .int .i64 0, .string ⟨#[]⟩, .string ⟨#[]⟩, .int .i64 0, .string ⟨#[]⟩, .string ⟨#[]⟩, .int .i64 1, .string u.f0, .string u.f1, .slice none 0 0]] W fun e w' => e = .returned (.tuple #[.bool (eqU R u), .int .i64 0]) ∧ Below W.heap.size W w') := ⟨fun W hW0 => by
              have h := one_all A g.length c P.f0 P.f1 Q.f0 Q.f1 R.f0 R.f1 false 0 ⟨#[]⟩ ⟨#[]⟩ 0 ⟨#[]⟩ ⟨#[]⟩ 1 u.f0 u.f1 true true (eqU R u) W (fun W _ => scope_any A g.length c _ _ _ _ W) (fun W _ => scope_any A g.length c _ _ _ _ W) (fun W _ => scope_same A g.length c _ _ _ _ W)
              have e : (true && (true && (eqU R u))) = (eqU R u) := by cases (eqU R u) <;> rfl
              rw [e] at h
              exact h⟩
            have HWr : Aside0 (∀ W, Calls Tryz.prog 12 #[.int .i64 wh, .int .i64 3] W fun e w' => e = .returned (.int .i64 2) ∧ w' = W) := ⟨fun W => by have h := within14_fn wh 3 (by decide) (by decide) W; rw [hq] at h; exact h⟩
            clear hq
            have HD : Aside0 (D4 w2 gq P Q R gu u gs 1 gp gi #[.bool false, .int .i64 0, .string ⟨#[]⟩, .string ⟨#[]⟩, .int .i64 0, .string ⟨#[]⟩, .string ⟨#[]⟩, .int .i64 0, .string ⟨#[]⟩, .string ⟨#[]⟩, .slice none 0 0] P w10) := HD0
            obtain ⟨s0, s1, s2⟩ := c3 HD.out.sb
            obtain ⟨y0, y1, y2, y3, y4, y5⟩ := c6 HD.out.q
            obtain ⟨z1, z2, z3, z4, z5, z6, z7, z8, z9, z10⟩ := c11 HD.out.pb
            obtain ⟨i0, i1⟩ := c2 HD.out.ib
            have m0 := blk_frozen HD.out.ib 0
            have m1 := blk_frozen HD.out.ib 1
            have f1 := blk_frozen HD.out.pb 1
            have f2 := blk_frozen HD.out.pb 2
            have f3 := blk_frozen HD.out.pb 3
            have f4 := blk_frozen HD.out.pb 4
            have f5 := blk_frozen HD.out.pb 5
            have f6 := blk_frozen HD.out.pb 6
            have f7 := blk_frozen HD.out.pb 7
            have f8 := blk_frozen HD.out.pb 8
            have f9 := blk_frozen HD.out.pb 9
            go_upto_region 24 with (go_at_call 12; refine (HWr.out _).mono ?_; rintro e wj ⟨rfl, hw⟩; rw [hw]; clear hw)
            go_region
            have HE : Aside0 (D4 w2 gq P Q R gu u gs 1 gp gi #[.bool false, .int .i64 0, .string ⟨#[]⟩, .string ⟨#[]⟩, .int .i64 0, .string ⟨#[]⟩, .string ⟨#[]⟩, .int .i64 1, .string u.f0, .string u.f1, .slice none 0 0] R (((((w10.setCell ⟨gp, 7, none⟩ (.int .i64 1)).setCell ⟨gp, 8, none⟩ (.string u.f0)).setCell ⟨gp, 9, none⟩ (.string u.f1)).setCell ⟨gi, 0, none⟩ (.string R.f0)).setCell ⟨gi, 1, none⟩ (.string R.f1))) := ⟨⟨((((HD.out.toD3.far HD.out.l3 7 _).far HD.out.l3 8 _).far HD.out.l3 9 _).far (Nat.lt_trans HD.out.l3 HD.out.l4) 0 _).far (Nat.lt_trans HD.out.l3 HD.out.l4) 1 _, blk_far (blk_far (blk_put (cs := #[.bool false, .int .i64 0, .string ⟨#[]⟩, .string ⟨#[]⟩, .int .i64 0, .string ⟨#[]⟩, .string ⟨#[]⟩, .int .i64 1, .string u.f0, .string ⟨#[]⟩, .slice none 0 0]) (cs' := #[.bool false, .int .i64 0, .string ⟨#[]⟩, .string ⟨#[]⟩, .int .i64 0, .string ⟨#[]⟩, .string ⟨#[]⟩, .int .i64 1, .string u.f0, .string u.f1, .slice none 0 0]) (blk_put (cs := #[.bool false, .int .i64 0, .string ⟨#[]⟩, .string ⟨#[]⟩, .int .i64 0, .string ⟨#[]⟩, .string ⟨#[]⟩, .int .i64 1, .string ⟨#[]⟩, .string ⟨#[]⟩, .slice none 0 0]) (cs' := #[.bool false, .int .i64 0, .string ⟨#[]⟩, .string ⟨#[]⟩, .int .i64 0, .string ⟨#[]⟩, .string ⟨#[]⟩, .int .i64 1, .string u.f0, .string ⟨#[]⟩, .slice none 0 0]) (blk_put (cs := #[.bool false, .int .i64 0, .string ⟨#[]⟩, .string ⟨#[]⟩, .int .i64 0, .string ⟨#[]⟩, .string ⟨#[]⟩, .int .i64 0, .string ⟨#[]⟩, .string ⟨#[]⟩, .slice none 0 0]) (cs' := #[.bool false, .int .i64 0, .string ⟨#[]⟩, .string ⟨#[]⟩, .int .i64 0, .string ⟨#[]⟩, .string ⟨#[]⟩, .int .i64 1, .string ⟨#[]⟩, .string ⟨#[]⟩, .slice none 0 0]) (HD.out.pb) 7 _ rfl) 8 _ rfl) 9 _ rfl) (p := ⟨gi, 0, none⟩) (Nat.ne_of_lt HD.out.l4) _) (p := ⟨gi, 1, none⟩) (Nat.ne_of_lt HD.out.l4) _, blk_put (cs := #[.string R.f0, .string P.f1]) (cs' := #[.string R.f0, .string R.f1]) (blk_put (cs := #[.string P.f0, .string P.f1]) (cs' := #[.string R.f0, .string P.f1]) (blk_far (blk_far (blk_far (HD.out.ib) (p := ⟨gp, 7, none⟩) (Nat.ne_of_gt HD.out.l4) _) (p := ⟨gp, 8, none⟩) (Nat.ne_of_gt HD.out.l4) _) (p := ⟨gp, 9, none⟩) (Nat.ne_of_gt HD.out.l4) _) 0 _ rfl) 1 _ rfl, HD.out.l3, HD.out.l4⟩⟩
            replace HE := Aside0.mk (HE.out.step (below_drew1 (Below.refl _ _)))
            clear s0 s1 s2 y0 y1 y2 y3 y4 y5 z1 z2 z3 z4 z5 z6 z7 z8 z9 z10 i0 i1 m0 m1 f1 f2 f3 f4 f5 f6 f7 f8 f9 HD HWr
            generalize (((((w10.setCell ⟨gp, 7, none⟩ (.int .i64 1)).setCell ⟨gp, 8, none⟩ (.string u.f0)).setCell ⟨gp, 9, none⟩ (.string u.f1)).setCell ⟨gi, 0, none⟩ (.string R.f0)).setCell ⟨gi, 1, none⟩ (.string R.f1)).drew = w11 at HE ⊢
            obtain ⟨y0, y1, y2, y3, y4, y5⟩ := c6 HE.out.q
            have z0 := c11' HE.out.pb
            obtain ⟨z1, z2, z3, z4, z5, z6, z7, z8, z9, z10⟩ := c11 HE.out.pb
            go_upto_region 26 with (go_at_call 14; refine (HOne.out _ HE.out.be).mono ?_; rintro e w12 ⟨rfl, hb⟩; replace HE := Aside0.mk (HE.out.step hb); clear hb)
            clear y0 y1 y2 y3 y4 y5 z0 z1 z2 z3 z4 z5 z6 z7 z8 z9 z10 HOne
            obtain ⟨i0, i1⟩ := c2 HE.out.ib
            obtain ⟨u0, u1⟩ := c2 HE.out.ub
            unfold eqU
            cases bx : (R.f0.toList == u.f0.toList) <;> cases b2 : (R.f1.toList == u.f1.toList)
            all_goals
              go_wp2
              go_ret
              exact ⟨rfl, below_step HB2.out HE.out.be⟩
        | true =>
          rcases hr with hq | hq | hq
          · skip
            have HOne : Aside0 (∀ W, Below w2.heap.size w2 W → Calls Tryz.prog 14 #[.slice A g.length c, .agg #[.string P.f0, .string P.f1, .string Q.f0, .string Q.f1, .string R.f0, .string R.f1], .agg #[.bool false, .int .i64 2, .string u.f0, .string u.f1, .int .i64 0, .string ⟨#[]⟩, .string ⟨#[]⟩, .int .i64 0, .string ⟨#[]⟩, .string ⟨#[]⟩, .slice none 0 0]] W fun e w' => e = .returned (.tuple #[.bool (inF g P u), .int .i64 0]) ∧ Below W.heap.size W w') := ⟨fun W hW0 => by
              have h := one_all A g.length c P.f0 P.f1 Q.f0 Q.f1 R.f0 R.f1 false 2 u.f0 u.f1 0 ⟨#[]⟩ ⟨#[]⟩ 0 ⟨#[]⟩ ⟨#[]⟩ (inF g P u) true true W (fun W hW => scope_in A g.length c _ _ _ _ (inF g P u) W (fun W2 h2 => GA.in_calls0 g HOK.out P u HP.out HU.out A c W2 HC.out.1 (Kd.C_below (Kd.C_below (Kd.C_below HC.out.2 hW0) hW) h2))) (fun W _ => scope_any A g.length c _ _ _ _ W) (fun W _ => scope_any A g.length c _ _ _ _ W)
              have e : ((inF g P u) && (true && true)) = (inF g P u) := by cases (inF g P u) <;> rfl
              rw [e] at h
              exact h⟩
            have HWr : Aside0 (∀ W, Calls Tryz.prog 12 #[.int .i64 wh, .int .i64 3] W fun e w' => e = .returned (.int .i64 0) ∧ w' = W) := ⟨fun W => by have h := within14_fn wh 3 (by decide) (by decide) W; rw [hq] at h; exact h⟩
            clear hq
            have HD : Aside0 (D4 w2 gq P Q R gu u gs 2 gp gi #[.bool false, .int .i64 0, .string ⟨#[]⟩, .string ⟨#[]⟩, .int .i64 0, .string ⟨#[]⟩, .string ⟨#[]⟩, .int .i64 0, .string ⟨#[]⟩, .string ⟨#[]⟩, .slice none 0 0] P w10) := HD0
            obtain ⟨s0, s1, s2⟩ := c3 HD.out.sb
            obtain ⟨y0, y1, y2, y3, y4, y5⟩ := c6 HD.out.q
            obtain ⟨z1, z2, z3, z4, z5, z6, z7, z8, z9, z10⟩ := c11 HD.out.pb
            obtain ⟨i0, i1⟩ := c2 HD.out.ib
            have m0 := blk_frozen HD.out.ib 0
            have m1 := blk_frozen HD.out.ib 1
            have f1 := blk_frozen HD.out.pb 1
            have f2 := blk_frozen HD.out.pb 2
            have f3 := blk_frozen HD.out.pb 3
            have f4 := blk_frozen HD.out.pb 4
            have f5 := blk_frozen HD.out.pb 5
            have f6 := blk_frozen HD.out.pb 6
            have f7 := blk_frozen HD.out.pb 7
            have f8 := blk_frozen HD.out.pb 8
            have f9 := blk_frozen HD.out.pb 9
            go_upto_region 25 with (go_at_call 12; refine (HWr.out _).mono ?_; rintro e wj ⟨rfl, hw⟩; rw [hw]; clear hw)
            have HE : Aside0 (D4 w2 gq P Q R gu u gs 2 gp gi #[.bool false, .int .i64 2, .string u.f0, .string u.f1, .int .i64 0, .string ⟨#[]⟩, .string ⟨#[]⟩, .int .i64 0, .string ⟨#[]⟩, .string ⟨#[]⟩, .slice none 0 0] P (((w10.setCell ⟨gp, 1, none⟩ (.int .i64 2)).setCell ⟨gp, 2, none⟩ (.string u.f0)).setCell ⟨gp, 3, none⟩ (.string u.f1))) := ⟨⟨((HD.out.toD3.far HD.out.l3 1 _).far HD.out.l3 2 _).far HD.out.l3 3 _, blk_put (cs := #[.bool false, .int .i64 2, .string u.f0, .string ⟨#[]⟩, .int .i64 0, .string ⟨#[]⟩, .string ⟨#[]⟩, .int .i64 0, .string ⟨#[]⟩, .string ⟨#[]⟩, .slice none 0 0]) (cs' := #[.bool false, .int .i64 2, .string u.f0, .string u.f1, .int .i64 0, .string ⟨#[]⟩, .string ⟨#[]⟩, .int .i64 0, .string ⟨#[]⟩, .string ⟨#[]⟩, .slice none 0 0]) (blk_put (cs := #[.bool false, .int .i64 2, .string ⟨#[]⟩, .string ⟨#[]⟩, .int .i64 0, .string ⟨#[]⟩, .string ⟨#[]⟩, .int .i64 0, .string ⟨#[]⟩, .string ⟨#[]⟩, .slice none 0 0]) (cs' := #[.bool false, .int .i64 2, .string u.f0, .string ⟨#[]⟩, .int .i64 0, .string ⟨#[]⟩, .string ⟨#[]⟩, .int .i64 0, .string ⟨#[]⟩, .string ⟨#[]⟩, .slice none 0 0]) (blk_put (cs := #[.bool false, .int .i64 0, .string ⟨#[]⟩, .string ⟨#[]⟩, .int .i64 0, .string ⟨#[]⟩, .string ⟨#[]⟩, .int .i64 0, .string ⟨#[]⟩, .string ⟨#[]⟩, .slice none 0 0]) (cs' := #[.bool false, .int .i64 2, .string ⟨#[]⟩, .string ⟨#[]⟩, .int .i64 0, .string ⟨#[]⟩, .string ⟨#[]⟩, .int .i64 0, .string ⟨#[]⟩, .string ⟨#[]⟩, .slice none 0 0]) (HD.out.pb) 1 _ rfl) 2 _ rfl) 3 _ rfl, blk_far (blk_far (blk_far HD.out.ib (p := ⟨gp, 1, none⟩) (Nat.ne_of_gt HD.out.l4) _) (p := ⟨gp, 2, none⟩) (Nat.ne_of_gt HD.out.l4) _) (p := ⟨gp, 3, none⟩) (Nat.ne_of_gt HD.out.l4) _, HD.out.l3, HD.out.l4⟩⟩
            clear s0 s1 s2 y0 y1 y2 y3 y4 y5 z1 z2 z3 z4 z5 z6 z7 z8 z9 z10 i0 i1 m0 m1 f1 f2 f3 f4 f5 f6 f7 f8 f9 HD HWr
            generalize ((w10.setCell ⟨gp, 1, none⟩ (.int .i64 2)).setCell ⟨gp, 2, none⟩ (.string u.f0)).setCell ⟨gp, 3, none⟩ (.string u.f1) = w11 at HE ⊢
            obtain ⟨y0, y1, y2, y3, y4, y5⟩ := c6 HE.out.q
            have z0 := c11' HE.out.pb
            obtain ⟨z1, z2, z3, z4, z5, z6, z7, z8, z9, z10⟩ := c11 HE.out.pb
            go_upto_region 26 with (go_at_call 14; refine (HOne.out _ HE.out.be).mono ?_; rintro e w12 ⟨rfl, hb⟩; replace HE := Aside0.mk (HE.out.step hb); clear hb)
            clear y0 y1 y2 y3 y4 y5 z0 z1 z2 z3 z4 z5 z6 z7 z8 z9 z10 HOne
            obtain ⟨i0, i1⟩ := c2 HE.out.ib
            obtain ⟨u0, u1⟩ := c2 HE.out.ub
            go_wp2_with (go_at_call 9; refine (GP.refin_calls g HA.out P u A c _ HC.out.1 (Kd.C_below HC.out.2 HE.out.be)).mono ?_; rintro e w13 ⟨rfl, hb⟩; replace HE := Aside0.mk (HE.out.step hb); clear hb)
            all_goals
              go_ret
              exact ⟨rfl, below_step HB2.out HE.out.be⟩
          · skip
            have HOne : Aside0 (∀ W, Below w2.heap.size w2 W → Calls Tryz.prog 14 #[.slice A g.length c, .agg #[.string P.f0, .string P.f1, .string Q.f0, .string Q.f1, .string R.f0, .string R.f1], .agg #[.bool false, .int .i64 0, .string ⟨#[]⟩, .string ⟨#[]⟩, .int .i64 2, .string u.f0, .string u.f1, .int .i64 0, .string ⟨#[]⟩, .string ⟨#[]⟩, .slice none 0 0]] W fun e w' => e = .returned (.tuple #[.bool (inF g Q u), .int .i64 0]) ∧ Below W.heap.size W w') := ⟨fun W hW0 => by
              have h := one_all A g.length c P.f0 P.f1 Q.f0 Q.f1 R.f0 R.f1 false 0 ⟨#[]⟩ ⟨#[]⟩ 2 u.f0 u.f1 0 ⟨#[]⟩ ⟨#[]⟩ true (inF g Q u) true W (fun W _ => scope_any A g.length c _ _ _ _ W) (fun W hW => scope_in A g.length c _ _ _ _ (inF g Q u) W (fun W2 h2 => GA.in_calls0 g HOK.out Q u HQ.out HU.out A c W2 HC.out.1 (Kd.C_below (Kd.C_below (Kd.C_below HC.out.2 hW0) hW) h2))) (fun W _ => scope_any A g.length c _ _ _ _ W)
              have e : (true && ((inF g Q u) && true)) = (inF g Q u) := by cases (inF g Q u) <;> rfl
              rw [e] at h
              exact h⟩
            have HWr : Aside0 (∀ W, Calls Tryz.prog 12 #[.int .i64 wh, .int .i64 3] W fun e w' => e = .returned (.int .i64 1) ∧ w' = W) := ⟨fun W => by have h := within14_fn wh 3 (by decide) (by decide) W; rw [hq] at h; exact h⟩
            clear hq
            have HD : Aside0 (D4 w2 gq P Q R gu u gs 2 gp gi #[.bool false, .int .i64 0, .string ⟨#[]⟩, .string ⟨#[]⟩, .int .i64 0, .string ⟨#[]⟩, .string ⟨#[]⟩, .int .i64 0, .string ⟨#[]⟩, .string ⟨#[]⟩, .slice none 0 0] P w10) := HD0
            obtain ⟨s0, s1, s2⟩ := c3 HD.out.sb
            obtain ⟨y0, y1, y2, y3, y4, y5⟩ := c6 HD.out.q
            obtain ⟨z1, z2, z3, z4, z5, z6, z7, z8, z9, z10⟩ := c11 HD.out.pb
            obtain ⟨i0, i1⟩ := c2 HD.out.ib
            have m0 := blk_frozen HD.out.ib 0
            have m1 := blk_frozen HD.out.ib 1
            have f1 := blk_frozen HD.out.pb 1
            have f2 := blk_frozen HD.out.pb 2
            have f3 := blk_frozen HD.out.pb 3
            have f4 := blk_frozen HD.out.pb 4
            have f5 := blk_frozen HD.out.pb 5
            have f6 := blk_frozen HD.out.pb 6
            have f7 := blk_frozen HD.out.pb 7
            have f8 := blk_frozen HD.out.pb 8
            have f9 := blk_frozen HD.out.pb 9
            go_upto_region 22 with (go_at_call 12; refine (HWr.out _).mono ?_; rintro e wj ⟨rfl, hw⟩; rw [hw]; clear hw)
            go_region
            have HE : Aside0 (D4 w2 gq P Q R gu u gs 2 gp gi #[.bool false, .int .i64 0, .string ⟨#[]⟩, .string ⟨#[]⟩, .int .i64 2, .string u.f0, .string u.f1, .int .i64 0, .string ⟨#[]⟩, .string ⟨#[]⟩, .slice none 0 0] Q (((((w10.setCell ⟨gp, 4, none⟩ (.int .i64 2)).setCell ⟨gp, 5, none⟩ (.string u.f0)).setCell ⟨gp, 6, none⟩ (.string u.f1)).setCell ⟨gi, 0, none⟩ (.string Q.f0)).setCell ⟨gi, 1, none⟩ (.string Q.f1))) := ⟨⟨((((HD.out.toD3.far HD.out.l3 4 _).far HD.out.l3 5 _).far HD.out.l3 6 _).far (Nat.lt_trans HD.out.l3 HD.out.l4) 0 _).far (Nat.lt_trans HD.out.l3 HD.out.l4) 1 _, blk_far (blk_far (blk_put (cs := #[.bool false, .int .i64 0, .string ⟨#[]⟩, .string ⟨#[]⟩, .int .i64 2, .string u.f0, .string ⟨#[]⟩, .int .i64 0, .string ⟨#[]⟩, .string ⟨#[]⟩, .slice none 0 0]) (cs' := #[.bool false, .int .i64 0, .string ⟨#[]⟩, .string ⟨#[]⟩, .int .i64 2, .string u.f0, .string u.f1, .int .i64 0, .string ⟨#[]⟩, .string ⟨#[]⟩, .slice none 0 0]) (blk_put (cs := #[.bool false, .int .i64 0, .string ⟨#[]⟩, .string ⟨#[]⟩, .int .i64 2, .string ⟨#[]⟩, .string ⟨#[]⟩, .int .i64 0, .string ⟨#[]⟩, .string ⟨#[]⟩, .slice none 0 0]) (cs' := #[.bool false, .int .i64 0, .string ⟨#[]⟩, .string ⟨#[]⟩, .int .i64 2, .string u.f0, .string ⟨#[]⟩, .int .i64 0, .string ⟨#[]⟩, .string ⟨#[]⟩, .slice none 0 0]) (blk_put (cs := #[.bool false, .int .i64 0, .string ⟨#[]⟩, .string ⟨#[]⟩, .int .i64 0, .string ⟨#[]⟩, .string ⟨#[]⟩, .int .i64 0, .string ⟨#[]⟩, .string ⟨#[]⟩, .slice none 0 0]) (cs' := #[.bool false, .int .i64 0, .string ⟨#[]⟩, .string ⟨#[]⟩, .int .i64 2, .string ⟨#[]⟩, .string ⟨#[]⟩, .int .i64 0, .string ⟨#[]⟩, .string ⟨#[]⟩, .slice none 0 0]) (HD.out.pb) 4 _ rfl) 5 _ rfl) 6 _ rfl) (p := ⟨gi, 0, none⟩) (Nat.ne_of_lt HD.out.l4) _) (p := ⟨gi, 1, none⟩) (Nat.ne_of_lt HD.out.l4) _, blk_put (cs := #[.string Q.f0, .string P.f1]) (cs' := #[.string Q.f0, .string Q.f1]) (blk_put (cs := #[.string P.f0, .string P.f1]) (cs' := #[.string Q.f0, .string P.f1]) (blk_far (blk_far (blk_far (HD.out.ib) (p := ⟨gp, 4, none⟩) (Nat.ne_of_gt HD.out.l4) _) (p := ⟨gp, 5, none⟩) (Nat.ne_of_gt HD.out.l4) _) (p := ⟨gp, 6, none⟩) (Nat.ne_of_gt HD.out.l4) _) 0 _ rfl) 1 _ rfl, HD.out.l3, HD.out.l4⟩⟩
            replace HE := Aside0.mk (HE.out.step (below_drew1 (Below.refl _ _)))
            clear s0 s1 s2 y0 y1 y2 y3 y4 y5 z1 z2 z3 z4 z5 z6 z7 z8 z9 z10 i0 i1 m0 m1 f1 f2 f3 f4 f5 f6 f7 f8 f9 HD HWr
            generalize (((((w10.setCell ⟨gp, 4, none⟩ (.int .i64 2)).setCell ⟨gp, 5, none⟩ (.string u.f0)).setCell ⟨gp, 6, none⟩ (.string u.f1)).setCell ⟨gi, 0, none⟩ (.string Q.f0)).setCell ⟨gi, 1, none⟩ (.string Q.f1)).drew = w11 at HE ⊢
            obtain ⟨y0, y1, y2, y3, y4, y5⟩ := c6 HE.out.q
            have z0 := c11' HE.out.pb
            obtain ⟨z1, z2, z3, z4, z5, z6, z7, z8, z9, z10⟩ := c11 HE.out.pb
            go_upto_region 26 with (go_at_call 14; refine (HOne.out _ HE.out.be).mono ?_; rintro e w12 ⟨rfl, hb⟩; replace HE := Aside0.mk (HE.out.step hb); clear hb)
            clear y0 y1 y2 y3 y4 y5 z0 z1 z2 z3 z4 z5 z6 z7 z8 z9 z10 HOne
            obtain ⟨i0, i1⟩ := c2 HE.out.ib
            obtain ⟨u0, u1⟩ := c2 HE.out.ub
            go_wp2_with (go_at_call 9; refine (GP.refin_calls g HA.out Q u A c _ HC.out.1 (Kd.C_below HC.out.2 HE.out.be)).mono ?_; rintro e w13 ⟨rfl, hb⟩; replace HE := Aside0.mk (HE.out.step hb); clear hb)
            all_goals
              go_ret
              exact ⟨rfl, below_step HB2.out HE.out.be⟩
          · skip
            have HOne : Aside0 (∀ W, Below w2.heap.size w2 W → Calls Tryz.prog 14 #[.slice A g.length c, .agg #[.string P.f0, .string P.f1, .string Q.f0, .string Q.f1, .string R.f0, .string R.f1], .agg #[.bool false, .int .i64 0, .string ⟨#[]⟩, .string ⟨#[]⟩, .int .i64 0, .string ⟨#[]⟩, .string ⟨#[]⟩, .int .i64 2, .string u.f0, .string u.f1, .slice none 0 0]] W fun e w' => e = .returned (.tuple #[.bool (inF g R u), .int .i64 0]) ∧ Below W.heap.size W w') := ⟨fun W hW0 => by
              have h := one_all A g.length c P.f0 P.f1 Q.f0 Q.f1 R.f0 R.f1 false 0 ⟨#[]⟩ ⟨#[]⟩ 0 ⟨#[]⟩ ⟨#[]⟩ 2 u.f0 u.f1 true true (inF g R u) W (fun W _ => scope_any A g.length c _ _ _ _ W) (fun W _ => scope_any A g.length c _ _ _ _ W) (fun W hW => scope_in A g.length c _ _ _ _ (inF g R u) W (fun W2 h2 => GA.in_calls0 g HOK.out R u HRr.out HU.out A c W2 HC.out.1 (Kd.C_below (Kd.C_below (Kd.C_below HC.out.2 hW0) hW) h2)))
              have e : (true && (true && (inF g R u))) = (inF g R u) := by cases (inF g R u) <;> rfl
              rw [e] at h
              exact h⟩
            have HWr : Aside0 (∀ W, Calls Tryz.prog 12 #[.int .i64 wh, .int .i64 3] W fun e w' => e = .returned (.int .i64 2) ∧ w' = W) := ⟨fun W => by have h := within14_fn wh 3 (by decide) (by decide) W; rw [hq] at h; exact h⟩
            clear hq
            have HD : Aside0 (D4 w2 gq P Q R gu u gs 2 gp gi #[.bool false, .int .i64 0, .string ⟨#[]⟩, .string ⟨#[]⟩, .int .i64 0, .string ⟨#[]⟩, .string ⟨#[]⟩, .int .i64 0, .string ⟨#[]⟩, .string ⟨#[]⟩, .slice none 0 0] P w10) := HD0
            obtain ⟨s0, s1, s2⟩ := c3 HD.out.sb
            obtain ⟨y0, y1, y2, y3, y4, y5⟩ := c6 HD.out.q
            obtain ⟨z1, z2, z3, z4, z5, z6, z7, z8, z9, z10⟩ := c11 HD.out.pb
            obtain ⟨i0, i1⟩ := c2 HD.out.ib
            have m0 := blk_frozen HD.out.ib 0
            have m1 := blk_frozen HD.out.ib 1
            have f1 := blk_frozen HD.out.pb 1
            have f2 := blk_frozen HD.out.pb 2
            have f3 := blk_frozen HD.out.pb 3
            have f4 := blk_frozen HD.out.pb 4
            have f5 := blk_frozen HD.out.pb 5
            have f6 := blk_frozen HD.out.pb 6
            have f7 := blk_frozen HD.out.pb 7
            have f8 := blk_frozen HD.out.pb 8
            have f9 := blk_frozen HD.out.pb 9
            go_upto_region 24 with (go_at_call 12; refine (HWr.out _).mono ?_; rintro e wj ⟨rfl, hw⟩; rw [hw]; clear hw)
            go_region
            have HE : Aside0 (D4 w2 gq P Q R gu u gs 2 gp gi #[.bool false, .int .i64 0, .string ⟨#[]⟩, .string ⟨#[]⟩, .int .i64 0, .string ⟨#[]⟩, .string ⟨#[]⟩, .int .i64 2, .string u.f0, .string u.f1, .slice none 0 0] R (((((w10.setCell ⟨gp, 7, none⟩ (.int .i64 2)).setCell ⟨gp, 8, none⟩ (.string u.f0)).setCell ⟨gp, 9, none⟩ (.string u.f1)).setCell ⟨gi, 0, none⟩ (.string R.f0)).setCell ⟨gi, 1, none⟩ (.string R.f1))) := ⟨⟨((((HD.out.toD3.far HD.out.l3 7 _).far HD.out.l3 8 _).far HD.out.l3 9 _).far (Nat.lt_trans HD.out.l3 HD.out.l4) 0 _).far (Nat.lt_trans HD.out.l3 HD.out.l4) 1 _, blk_far (blk_far (blk_put (cs := #[.bool false, .int .i64 0, .string ⟨#[]⟩, .string ⟨#[]⟩, .int .i64 0, .string ⟨#[]⟩, .string ⟨#[]⟩, .int .i64 2, .string u.f0, .string ⟨#[]⟩, .slice none 0 0]) (cs' := #[.bool false, .int .i64 0, .string ⟨#[]⟩, .string ⟨#[]⟩, .int .i64 0, .string ⟨#[]⟩, .string ⟨#[]⟩, .int .i64 2, .string u.f0, .string u.f1, .slice none 0 0]) (blk_put (cs := #[.bool false, .int .i64 0, .string ⟨#[]⟩, .string ⟨#[]⟩, .int .i64 0, .string ⟨#[]⟩, .string ⟨#[]⟩, .int .i64 2, .string ⟨#[]⟩, .string ⟨#[]⟩, .slice none 0 0]) (cs' := #[.bool false, .int .i64 0, .string ⟨#[]⟩, .string ⟨#[]⟩, .int .i64 0, .string ⟨#[]⟩, .string ⟨#[]⟩, .int .i64 2, .string u.f0, .string ⟨#[]⟩, .slice none 0 0]) (blk_put (cs := #[.bool false, .int .i64 0, .string ⟨#[]⟩, .string ⟨#[]⟩, .int .i64 0, .string ⟨#[]⟩, .string ⟨#[]⟩, .int .i64 0, .string ⟨#[]⟩, .string ⟨#[]⟩, .slice none 0 0]) (cs' := #[.bool false, .int .i64 0, .string ⟨#[]⟩, .string ⟨#[]⟩, .int .i64 0, .string ⟨#[]⟩, .string ⟨#[]⟩, .int .i64 2, .string ⟨#[]⟩, .string ⟨#[]⟩, .slice none 0 0]) (HD.out.pb) 7 _ rfl) 8 _ rfl) 9 _ rfl) (p := ⟨gi, 0, none⟩) (Nat.ne_of_lt HD.out.l4) _) (p := ⟨gi, 1, none⟩) (Nat.ne_of_lt HD.out.l4) _, blk_put (cs := #[.string R.f0, .string P.f1]) (cs' := #[.string R.f0, .string R.f1]) (blk_put (cs := #[.string P.f0, .string P.f1]) (cs' := #[.string R.f0, .string P.f1]) (blk_far (blk_far (blk_far (HD.out.ib) (p := ⟨gp, 7, none⟩) (Nat.ne_of_gt HD.out.l4) _) (p := ⟨gp, 8, none⟩) (Nat.ne_of_gt HD.out.l4) _) (p := ⟨gp, 9, none⟩) (Nat.ne_of_gt HD.out.l4) _) 0 _ rfl) 1 _ rfl, HD.out.l3, HD.out.l4⟩⟩
            replace HE := Aside0.mk (HE.out.step (below_drew1 (Below.refl _ _)))
            clear s0 s1 s2 y0 y1 y2 y3 y4 y5 z1 z2 z3 z4 z5 z6 z7 z8 z9 z10 i0 i1 m0 m1 f1 f2 f3 f4 f5 f6 f7 f8 f9 HD HWr
            generalize (((((w10.setCell ⟨gp, 7, none⟩ (.int .i64 2)).setCell ⟨gp, 8, none⟩ (.string u.f0)).setCell ⟨gp, 9, none⟩ (.string u.f1)).setCell ⟨gi, 0, none⟩ (.string R.f0)).setCell ⟨gi, 1, none⟩ (.string R.f1)).drew = w11 at HE ⊢
            obtain ⟨y0, y1, y2, y3, y4, y5⟩ := c6 HE.out.q
            have z0 := c11' HE.out.pb
            obtain ⟨z1, z2, z3, z4, z5, z6, z7, z8, z9, z10⟩ := c11 HE.out.pb
            go_upto_region 26 with (go_at_call 14; refine (HOne.out _ HE.out.be).mono ?_; rintro e w12 ⟨rfl, hb⟩; replace HE := Aside0.mk (HE.out.step hb); clear hb)
            clear y0 y1 y2 y3 y4 y5 z0 z1 z2 z3 z4 z5 z6 z7 z8 z9 z10 HOne
            obtain ⟨i0, i1⟩ := c2 HE.out.ib
            obtain ⟨u0, u1⟩ := c2 HE.out.ub
            go_wp2_with (go_at_call 9; refine (GP.refin_calls g HA.out R u A c _ HC.out.1 (Kd.C_below HC.out.2 HE.out.be)).mono ?_; rintro e w13 ⟨rfl, hb⟩; replace HE := Aside0.mk (HE.out.step hb); clear hb)
            all_goals
              go_ret
              exact ⟨rfl, below_step HB2.out HE.out.be⟩
end Go.Proofs.YtelibndkkokadaaGreat.DC
namespace Go.Proofs.YtelibndkkokadaaGreat.DC
open Go.RowKit Go.Proofs.YtelibndkkokadaaGreatW.PrintWords Go.Proofs.YtelibndkkokadaaGreatW.PrintLast Go.Proofs.YtelibndkkokadaaGreat.HandV Go.Proofs.YtelibndkkokadaaGreatW.PrintMore
open Go.Proofs.YtelibndkkokadaaGreat.GB
attribute [local go_sem] max2_int min2_int max_two min_two max_three min_three max_four min_four   -- for this text's walks alone
set_option linter.unusedVariables false
set_option linter.unusedSimpArgs false
-- IMPORT .DC8
theorem scopes_law (A0 : Option Addr) (c0 : Nat) (l0 : List S64) (A1 : Option Addr) (c1 : Nat) (l1 : List Int) (wh n : Int) (bi : Bool) (w : World) (hC0 : k64.C w A0 l0.length l0) (hc0 : l0.length ≤ c0) (hC1 : (Kd.int .i64).C w A1 l1.length l1) (hc1 : l1.length ≤ c1) : Calls Tryz.prog 4 #[.slice A0 l0.length c0, .slice A1 l1.length c1, .int .i64 wh, .int .i64 n, .bool bi] w fun e w' => e = .returned (.bool true) ∧ Below w.heap.size w w' := scopes_calls l0 A0 c0 l1 A1 c1 wh n bi w hC0 hc0 hC1 hc1
end Go.Proofs.YtelibndkkokadaaGreat.DC
