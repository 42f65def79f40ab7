import Derived.Test.YtelibndkkokadaaGreatGB0
import Derived.Test.YtelibndkkokadaaGreatA10
import Derived.Deep.LoopGhost
import Derived.Deep.RegionWith
import Derived.Deep.CutRange
import Derived.Test.YtelibndkkokadaaGreatSqz
import Derived.Test.YtelibndkkokadaaGreatJp
import Derived.Test.YtelibndkkokadaaGreatJz
namespace Go.Proofs.YtelibndkkokadaaGreat.GA
open Go.RowKit Go.Proofs.YtelibndkkokadaaGreatW.PrintWords Go.Proofs.YtelibndkkokadaaGreatW.PrintLast Go.Proofs.YtelibndkkokadaaGreat.HandV Go.Proofs.YtelibndkkokadaaGreatW.PrintMore
open Go.Proofs.YtelibndkkokadaaGreat.GB
attribute [local go_sem] max2_int min2_int max_two min_two max_three min_three max_four min_four   -- for this text's walks alone
set_option linter.unusedVariables false
set_option linter.unusedSimpArgs false
-- IMPORT .A10
-- IMPORT Derived.Deep.LoopGhost
/-- Some truth came back, and below the mark all is as it was. -/
def RB (w : World) (e : Ending) (w' : World) : Prop := (∃ b, e = .returned (.bool b)) ∧ Below w.heap.size w w'
theorem RB.mk {w w' : World} (b : Bool) (h : Below w.heap.size w w') : RB w (.returned (.bool b)) w' := ⟨⟨b, rfl⟩, h⟩
set_option maxRecDepth 100000 in
set_option maxHeartbeats 8000000 in
theorem rless (k1 n1 k2 n2 : Int) (b1 b2 : Bool) (s1 t1 i1 s2 t2 i2 : ByteArray) (A1 A2 : Option Addr) (c1 c2 : Nat) (w : World) :
    Calls Tryz.prog 61 #[.agg #[.int .i64 k1, .bool b1, .int .i64 n1, .string s1, .string t1, .string i1, .slice A1 0 c1], .agg #[.int .i64 k2, .bool b2, .int .i64 n2, .string s2, .string t2, .string i2, .slice A2 0 c2]] w (RB w) := by
  have HC := Aside0.mk (less_calls ⟨t1, i1⟩ ⟨t2, i2⟩)
  go_enter Tryz.func61, Tryz.ntmps61
  go_wp2_with (first | (go_at_call 16; refine (HC.out _).mono ?_; rintro e w1 ⟨rfl, hb⟩; have HB : Aside0 (Below w.heap.size w w1) := ⟨below_step (by repeat (first | exact Below.refl _ _ | apply below_alloc)) hb⟩; clear hb))
  all_goals first
    | (go_ret; exact .mk _ (by first | exact HB.out | (repeat (first | exact Below.refl _ _ | apply below_alloc))))
    | skip
  have hB0 : Aside0 (Below w.heap.size w w) := ⟨Below.refl _ _⟩
  go_loopg [5] 1 (fun g v5 wr => v5 = .int .i64 0 ∧ g = 1 ∧ Aside0 (Below w.heap.size w wr) ∧ wr.cell? ⟨w.heap.size, 6, none⟩ = some (.slice A1 0 c1) ∧ wr.cell? ⟨w.heap.size + 1, 6, none⟩ = some (.slice A2 0 c2))
  case atStart => exact ⟨rfl, rfl, ⟨by repeat (first | exact Below.refl _ _ | apply below_alloc)⟩, by simp [go_sem], by simp [go_sem]⟩
  case round =>
    obtain ⟨rfl, rfl, HB, q6, q7⟩ := hrel
    go_wp2
    all_goals first
      | (go_ret; exact .mk _ (by first | exact HB.out | (repeat (first | exact HB.out | apply pw_below_drewN | apply below_drew1))))
      | skip
end Go.Proofs.YtelibndkkokadaaGreat.GA
namespace Go.Proofs.YtelibndkkokadaaGreat.GA
open Go.RowKit Go.Proofs.YtelibndkkokadaaGreatW.PrintWords Go.Proofs.YtelibndkkokadaaGreatW.PrintLast Go.Proofs.YtelibndkkokadaaGreat.HandV Go.Proofs.YtelibndkkokadaaGreatW.PrintMore
open Go.Proofs.YtelibndkkokadaaGreat.GB
attribute [local go_sem] max2_int min2_int max_two min_two max_three min_three max_four min_four   -- for this text's walks alone
set_option linter.unusedVariables false
set_option linter.unusedSimpArgs false
-- IMPORT .B1
set_option maxRecDepth 100000 in
set_option maxHeartbeats 8000000 in
theorem rsame (k1 n1 k2 n2 : Int) (b1 b2 : Bool) (s1 t1 i1 s2 t2 i2 : ByteArray) (A1 A2 : Option Addr) (c1 c2 : Nat) (w : World) :
    Calls Tryz.prog 62 #[.agg #[.int .i64 k1, .bool b1, .int .i64 n1, .string s1, .string t1, .string i1, .slice A1 0 c1], .agg #[.int .i64 k2, .bool b2, .int .i64 n2, .string s2, .string t2, .string i2, .slice A2 0 c2]] w (RB w) := by
  go_enter Tryz.func62, Tryz.ntmps62
  go_wp2
  all_goals first
    | (go_ret; exact .mk _ (by (repeat (first | exact Below.refl _ _ | apply below_alloc))))
    | skip
  go_loopg [5] 1 (fun g v5 wr => v5 = .int .i64 0 ∧ g = 1 ∧ Aside0 (Below w.heap.size w wr) ∧ wr.cell? ⟨w.heap.size, 6, none⟩ = some (.slice A1 0 c1) ∧ wr.cell? ⟨w.heap.size + 1, 6, none⟩ = some (.slice A2 0 c2))
  case atStart => exact ⟨rfl, rfl, ⟨by repeat (first | exact Below.refl _ _ | apply below_alloc)⟩, by simp [go_sem], by simp [go_sem]⟩
  case round =>
    obtain ⟨rfl, rfl, HB, q6, q7⟩ := hrel
    go_wp2
    all_goals first
      | (go_ret; exact .mk _ (by first | exact HB.out | (repeat (first | exact HB.out | apply pw_below_drewN | apply below_drew1))))
      | skip
end Go.Proofs.YtelibndkkokadaaGreat.GA
namespace Go.Proofs.YtelibndkkokadaaGreat.GA
open Go.RowKit Go.Proofs.YtelibndkkokadaaGreatW.PrintWords Go.Proofs.YtelibndkkokadaaGreatW.PrintLast Go.Proofs.YtelibndkkokadaaGreat.HandV Go.Proofs.YtelibndkkokadaaGreatW.PrintMore
open Go.Proofs.YtelibndkkokadaaGreat.GB
attribute [local go_sem] max2_int min2_int max_two min_two max_three min_three max_four min_four   -- for this text's walks alone
set_option linter.unusedVariables false
set_option linter.unusedSimpArgs false
-- IMPORT .B2
-- IMPORT Derived.Deep.RegionWith
-- IMPORT Derived.Deep.CutRange
abbrev Vl := S39
/-- No set of anything. -/
def FlatV (x : Vl) : Prop := x.f5 = []
abbrev zV : Obj := .cells #[.int .i64 0, .bool false, .int .i64 0, .string ⟨#[]⟩, .string ⟨#[]⟩, .string ⟨#[]⟩, .slice none 0 0] 39 (0, 0)
theorem rdV_at {l : List Vl} {i : Nat} (h : i < l.length) : rd_T39 l (i : Int) = l[i] := by
  unfold rd_T39
  rw [Int.toNat_natCast, List.getD_eq_getElem?_getD, List.getElem?_eq_getElem h]; rfl
/-- A flat value's row in memory, read in place. -/
theorem at_flat {W : World} {A : Option Addr} {l : List Vl} (h : k39.C W A l.length l) (hf : ∀ x ∈ l, FlatV x) {i : Nat} (hi : i < l.length) : ∃ (ad : Addr) (A6 : Option Addr) (c6 : Nat) (k n : Int) (b : Bool) (s t u : ByteArray), A = some ad ∧ l[i] = ⟨k, b, n, s, ⟨t, u⟩, []⟩ ∧ W.cell? (ad.add (i * 7)) = some (.int .i64 k) ∧ W.cell? ⟨(ad.add (i * 7)).block, (ad.add (i * 7)).off + 1, none⟩ = some (.bool b) ∧ W.cell? ⟨(ad.add (i * 7)).block, (ad.add (i * 7)).off + 2, none⟩ = some (.int .i64 n) ∧ W.cell? ⟨(ad.add (i * 7)).block, (ad.add (i * 7)).off + 3, none⟩ = some (.string s) ∧ W.cell? ⟨(ad.add (i * 7)).block, (ad.add (i * 7)).off + 4, none⟩ = some (.string t) ∧ W.cell? ⟨(ad.add (i * 7)).block, (ad.add (i * 7)).off + 5, none⟩ = some (.string u) ∧ W.cell? ⟨(ad.add (i * 7)).block, (ad.add (i * 7)).off + 6, none⟩ = some (.slice A6 0 c6) := by
  obtain ⟨ad, A6, c6, rfl, g0, g1, g2, g3, g4, g5, g6, _, _⟩ := at_T39 h (i : Int) (by omega) (by omega)
  rw [rdV_at hi, Int.toNat_natCast] at g0 g1 g2 g3 g4 g5 g6
  have hx := hf _ (List.getElem_mem hi)
  obtain ⟨x, hxe⟩ : ∃ x, l[i] = x := ⟨_, rfl⟩
  rw [hxe] at g0 g1 g2 g3 g4 g5 g6 hx
  obtain ⟨k, b, n, s, ⟨t, u⟩, f⟩ := x
  obtain rfl : f = [] := hx
  exact ⟨ad, A6, c6, k, n, b, s, t, u, rfl, hxe, g0, g1, g2, g3, g4, g5, g6⟩
theorem put7 {W : World} {g : Nat} {t : TypeId} {a0 a1 a2 a3 a4 a5 a6 : Value} (h : W.heap[g]? = some (.cells #[a0, a1, a2, a3, a4, a5, a6] t (0, 0))) (v0 v1 v2 v3 v4 v5 v6 : Value) : (((((((W.setCell ⟨g, 0, none⟩ v0).setCell ⟨g, 1, none⟩ v1).setCell ⟨g, 2, none⟩ v2).setCell ⟨g, 3, none⟩ v3).setCell ⟨g, 4, none⟩ v4).setCell ⟨g, 5, none⟩ v5).setCell ⟨g, 6, none⟩ v6).heap[g]? = some (.cells #[v0, v1, v2, v3, v4, v5, v6] t (0, 0)) := by
  replace h := blk_put (cs := #[a0, a1, a2, a3, a4, a5, a6]) (cs' := #[v0, a1, a2, a3, a4, a5, a6]) h 0 v0 rfl
  replace h := blk_put (cs := #[v0, a1, a2, a3, a4, a5, a6]) (cs' := #[v0, v1, a2, a3, a4, a5, a6]) h 1 v1 rfl
  replace h := blk_put (cs := #[v0, v1, a2, a3, a4, a5, a6]) (cs' := #[v0, v1, v2, a3, a4, a5, a6]) h 2 v2 rfl
  replace h := blk_put (cs := #[v0, v1, v2, a3, a4, a5, a6]) (cs' := #[v0, v1, v2, v3, a4, a5, a6]) h 3 v3 rfl
  replace h := blk_put (cs := #[v0, v1, v2, v3, a4, a5, a6]) (cs' := #[v0, v1, v2, v3, v4, a5, a6]) h 4 v4 rfl
  replace h := blk_put (cs := #[v0, v1, v2, v3, v4, a5, a6]) (cs' := #[v0, v1, v2, v3, v4, v5, a6]) h 5 v5 rfl
  replace h := blk_put (cs := #[v0, v1, v2, v3, v4, v5, a6]) (cs' := #[v0, v1, v2, v3, v4, v5, v6]) h 6 v6 rfl
  exact h
theorem far7 {α : Type} {d : Kd α} {e : Nat} {base : Nat} {ok : Nat → Prop} {v : Value} {xs : List α} {W : World} {g : Nat} (h : Kd.N d e W base ok v xs) (hok : ∀ k, ok k → k ≠ g) (v0 v1 v2 v3 v4 v5 v6 : Value) : Kd.N d e (((((((W.setCell ⟨g, 0, none⟩ v0).setCell ⟨g, 1, none⟩ v1).setCell ⟨g, 2, none⟩ v2).setCell ⟨g, 3, none⟩ v3).setCell ⟨g, 4, none⟩ v4).setCell ⟨g, 5, none⟩ v5).setCell ⟨g, 6, none⟩ v6) base ok v xs :=
  Kd.N_far (p := ⟨g, 6, none⟩) (Kd.N_far (p := ⟨g, 5, none⟩) (Kd.N_far (p := ⟨g, 4, none⟩) (Kd.N_far (p := ⟨g, 3, none⟩) (Kd.N_far (p := ⟨g, 2, none⟩) (Kd.N_far (p := ⟨g, 1, none⟩) (Kd.N_far (p := ⟨g, 0, none⟩) h hok v0) hok v1) hok v2) hok v3) hok v4) hok v5) hok v6
theorem below7 {W w : World} {g : Nat} (h : Below w.heap.size w W) (hg : w.heap.size ≤ g) (v0 v1 v2 v3 v4 v5 v6 : Value) : Below w.heap.size w (((((((W.setCell ⟨g, 0, none⟩ v0).setCell ⟨g, 1, none⟩ v1).setCell ⟨g, 2, none⟩ v2).setCell ⟨g, 3, none⟩ v3).setCell ⟨g, 4, none⟩ v4).setCell ⟨g, 5, none⟩ v5).setCell ⟨g, 6, none⟩ v6) := below_set (below_set (below_set (below_set (below_set (below_set (below_set h hg) hg) hg) hg) hg) hg) hg
theorem C_nil0 {α : Type} {d : Kd α} (W : World) (A : Option Addr) : Kd.C d W A ([] : List α).length [] := ⟨rfl, by simp, fun h => absurd h (by simp)⟩
/-- A row of flat values of one's own, and the result's box. -/
structure StS (w : World) (i : Nat) (v5 : Value) (out : List Vl) (wx : World) : Prop where
  hn : Kd.N k39 39 wx w.heap.size (fun q => w.heap.size < q) v5 out
  fl : ∀ x ∈ out, FlatV x
  le : out.length ≤ i
  be : Below w.heap.size w wx
  bx : wx.heap[w.heap.size]? = some zV
theorem StS.step {w : World} {i : Nat} {v5 : Value} {out : List Vl} {wx wy : World} (h : StS w i v5 out wx) (hb : Below wx.heap.size wx wy) : StS w i v5 out wy :=
  ⟨Kd.N_below h.hn hb, h.fl, h.le, below_step h.be hb, (hb.block _ (GT.lt_of_heapT h.bx)).trans h.bx⟩
set_option maxRecDepth 100000 in
set_option maxHeartbeats 8000000 in
theorem rset (l : List Vl) (hf : ∀ x ∈ l, FlatV x) (hl : l.length ≤ 1000) (A : Option Addr) (c : Nat) (w : World) (hc : l.length ≤ c) (hC : ∀ W, Below w.heap.size w W → k39.C W A l.length l) :
    Calls Tryz.prog 42 #[.slice A l.length c] w fun e w' => ∃ (k n er : Int) (b : Bool) (s t u : ByteArray) (v : Value) (r : List Vl), e = .returned (.tuple #[.agg #[.int .i64 k, .bool b, .int .i64 n, .string s, .string t, .string u, v], .int .i64 er]) ∧ Kd.N k39 39 w' w.heap.size (fun q => w.heap.size ≤ q) v r ∧ (∀ x ∈ r, FlatV x) ∧ r.length ≤ 8 ∧ Below w.heap.size w w' := by
  have HF := Aside0.mk hf
  have HC := Aside0.mk hC
  have Hc := Aside0.mk hc
  have Hl := Aside0.mk hl
  clear hf hC hc hl
  go_enter Tryz.func42, Tryz.ntmps42
  go_wp2
  go_loopg [4] l.length (fun g v4 wr => ∃ i : Nat, v4 = .int .i64 (i : Int) ∧ i ≤ l.length ∧ g = l.length - i ∧ Aside0 (Below w.heap.size w wr) ∧ Aside0 (wr.heap[w.heap.size]? = some zV))
  case atStart => exact ⟨0, rfl, Nat.zero_le _, rfl, ⟨by repeat (first | exact Below.refl _ _ | apply below_alloc)⟩, ⟨blk_new _ _⟩⟩
  case round =>
    obtain ⟨i, rfl, hi, rfl, HB, HX⟩ := hrel
    have Hi := Aside0.mk hi
    by_cases hil : i < l.length
    · obtain ⟨ad, A6, c6, k, n, b, s, t, u, rfl, hxe, g0, g1, g2, g3, g4, g5, g6⟩ := at_flat (HC.out wr HB.out) HF.out hil
      obtain ⟨ad', A6', c6', k', n', b', s', t', u', had, hxe', q0, _⟩ := at_flat (HC.out wr HB.out) HF.out (show 0 < l.length by omega)
      obtain rfl := Option.some.inj had
      have p0 : (0 ≤ (i : Int)) = True := eq_true (by omega)
      have p1 : ((i : Int) < (l.length : Int)) = True := eq_true (by omega)
      have p3 : (0 < l.length) = True := eq_true (by omega)
      have p4 : l.length ≠ 0 := by omega
      have Hil := Aside0.mk hil
      clear hi hil g1 g2 g3 g4 g5 g6 hxe hxe' had
      rw [Nat.zero_mul, show ad.add 0 = ad by (simp [go_sem])] at q0
      cases hk : (k == 5) with
      | true =>
        go_wp2
        go_quiet (fail)
        have HBq := below7 (g := w.heap.size) (pw_below_drewN HB.out nq) (Nat.le_refl _)
        have HXq : (wr.drewN nq).heap[w.heap.size]? = some zV := blk_drewN HX.out nq
        generalize wr.drewN nq = wq at HBq HXq ⊢
        have z0 := (blk_cell HXq 0).trans rfl
        have z1 := (blk_cell HXq 1).trans rfl
        have z2 := (blk_cell HXq 2).trans rfl
        have z3 := (blk_cell HXq 3).trans rfl
        have z4 := (blk_cell HXq 4).trans rfl
        have z5 := (blk_cell HXq 5).trans rfl
        have z6 := (blk_cell HXq 6).trans rfl
        have y0 := blk_frozen HXq 0
        have y1 := blk_frozen HXq 1
        have y2 := blk_frozen HXq 2
        have y3 := blk_frozen HXq 3
        have y4 := blk_frozen HXq 4
        have y5 := blk_frozen HXq 5
        have y6 := blk_frozen HXq 6
        go_wp2
        refine bodyPost_ret (results_ct rfl _ _ w.heap.size 39 #[.int .i64 0, .bool false, .int .i64 0, .string (⟨#[]⟩ : ByteArray), .string (⟨#[]⟩ : ByteArray), .string (⟨#[]⟩ : ByteArray), .slice none 0 0] (0, 0) _ rfl (put7 HXq _ _ _ _ _ _ _) Tryz.underlying39 rfl (by kernel_rfl)) rfl ?_
        exact ⟨_, _, _, _, _, _, _, _, [], rfl, Kd.N_nil _ _ _ _ _, by simp, Nat.zero_le _, HBq _ _ _ _ _ _ _⟩
      | false =>
        cases hk2 : (k != k') with
        | true =>
          go_wp2
          go_quiet (fail)
          have HBq := below7 (g := w.heap.size) (pw_below_drewN HB.out nq) (Nat.le_refl _)
          have HXq : (wr.drewN nq).heap[w.heap.size]? = some zV := blk_drewN HX.out nq
          generalize wr.drewN nq = wq at HBq HXq ⊢
          have z0 := (blk_cell HXq 0).trans rfl
          have z1 := (blk_cell HXq 1).trans rfl
          have z2 := (blk_cell HXq 2).trans rfl
          have z3 := (blk_cell HXq 3).trans rfl
          have z4 := (blk_cell HXq 4).trans rfl
          have z5 := (blk_cell HXq 5).trans rfl
          have z6 := (blk_cell HXq 6).trans rfl
          have y0 := blk_frozen HXq 0
          have y1 := blk_frozen HXq 1
          have y2 := blk_frozen HXq 2
          have y3 := blk_frozen HXq 3
          have y4 := blk_frozen HXq 4
          have y5 := blk_frozen HXq 5
          have y6 := blk_frozen HXq 6
          go_wp2
          refine bodyPost_ret (results_ct rfl _ _ w.heap.size 39 #[.int .i64 0, .bool false, .int .i64 0, .string (⟨#[]⟩ : ByteArray), .string (⟨#[]⟩ : ByteArray), .string (⟨#[]⟩ : ByteArray), .slice none 0 0] (0, 0) _ rfl (put7 HXq _ _ _ _ _ _ _) Tryz.underlying39 rfl (by kernel_rfl)) rfl ?_
          exact ⟨_, _, _, _, _, _, _, _, [], rfl, Kd.N_nil _ _ _ _ _, by simp, Nat.zero_le _, HBq _ _ _ _ _ _ _⟩
        | false =>
          go_wp2
          go_quiet (fail)
          go_wp2
          go_roundg (l.length - (i + 1))
          case rel => exact ⟨i + 1, by rw [GP.wr_succ (by have := Hil.out; have := Hl.out; omega)], Hil.out, rfl, ⟨by repeat (first | exact HB.out | apply pw_below_drewN | apply below_drew1)⟩, ⟨by repeat (first | exact HX.out | refine blk_drewN ?_ _ | refine blk_drew ?_)⟩⟩
          case measure => have := Hil.out; omega
    · have p1 : ((i : Int) < (l.length : Int)) = False := eq_false (by omega)
      clear hi hil
      go_wp2
      go_loopg [5, 6] l.length (fun g v5 v6 wx => ∃ (i : Nat) (out : List Vl), v6 = .int .i64 (i : Int) ∧ i ≤ l.length ∧ g = l.length - i ∧ Aside0 (StS w i v5 out wx))
      case atStart => exact ⟨0, [], rfl, Nat.zero_le _, rfl, ⟨Kd.N_nil _ _ _ _ _, by simp, Nat.le_refl _, HB.out, HX.out⟩⟩
      case round =>
        clear HB HX Hi p1
        obtain ⟨i, out, rfl, hi, rfl, HS⟩ := hrel
        obtain ⟨A5, c5, rfl⟩ := Kd.N_slice HS.out.hn
        have Hi := Aside0.mk hi
        by_cases hil : i < l.length
        · have p1 : ((i : Int) < (l.length : Int)) = True := eq_true (by omega)
          have Hil := Aside0.mk hil
          clear hi hil
          go_wp2
          go_loopg [7] out.length (fun g v7 wx => ∃ k : Nat, v7 = .int .i64 (k : Int) ∧ k ≤ out.length ∧ g = out.length - k ∧ Aside0 (StS w i (.slice A5 out.length c5) out wx))
          case atStart => exact ⟨0, rfl, Nat.zero_le _, rfl, HS⟩
          case round =>
            clear HS
            obtain ⟨k, rfl, hk, rfl, HS⟩ := hrel
            have Hk := Aside0.mk hk
            clear hk
            go_wp2
            go_cut [7, 54] from 40 to 54 (fun s7 s wx => s7 = .int .i64 (k : Int) ∧ (∃ b, s = .bool b ∧ (b = true → k < out.length)) ∧ Aside0 (StS w i (.slice A5 out.length c5) out wx))
            case first =>
              by_cases hko : k < out.length
              · obtain ⟨ao, B6, d6, k1, n1, b1, s1, t1, u1, rfl, hq1, g0, g1, g2, g3, g4, g5, g6⟩ := at_flat (Kd.N_reads' HS.out.hn).2.2 HS.out.fl hko
                obtain ⟨al, C6, e6, k2, n2, b2, s2, t2, u2, rfl, hq2, f0, f1, f2, f3, f4, f5, f6⟩ := at_flat (HC.out wr HS.out.be) HF.out Hil.out
                have p0 : (0 ≤ (k : Int)) = True := eq_true (by omega)
                have p2 : ((k : Int) < (out.length : Int)) = True := eq_true (by omega)
                have p3 : decide ((k : Int) < (out.length : Int)) = true := decide_eq_true (by omega)
                have p4 : (0 ≤ (i : Int)) = True := eq_true (by omega)
                have Hko := Aside0.mk hko
                have HLC := Aside0.mk (rless k1 n1 k2 n2 b1 b2 s1 t1 u1 s2 t2 u2 B6 C6 d6 e6)
                clear hko hq1 hq2
                have HK : Aside0 (∀ W, Below wr.heap.size wr W → (W.cell? (ao.add (k * 7)) = some (.int .i64 k1) ∧ W.cell? ⟨(ao.add (k * 7)).block, (ao.add (k * 7)).off + 1, none⟩ = some (.bool b1) ∧ W.cell? ⟨(ao.add (k * 7)).block, (ao.add (k * 7)).off + 2, none⟩ = some (.int .i64 n1) ∧ W.cell? ⟨(ao.add (k * 7)).block, (ao.add (k * 7)).off + 3, none⟩ = some (.string s1) ∧ W.cell? ⟨(ao.add (k * 7)).block, (ao.add (k * 7)).off + 4, none⟩ = some (.string t1) ∧ W.cell? ⟨(ao.add (k * 7)).block, (ao.add (k * 7)).off + 5, none⟩ = some (.string u1) ∧ W.cell? ⟨(ao.add (k * 7)).block, (ao.add (k * 7)).off + 6, none⟩ = some (.slice B6 0 d6) ∧ W.cell? (al.add (i * 7)) = some (.int .i64 k2) ∧ W.cell? ⟨(al.add (i * 7)).block, (al.add (i * 7)).off + 1, none⟩ = some (.bool b2) ∧ W.cell? ⟨(al.add (i * 7)).block, (al.add (i * 7)).off + 2, none⟩ = some (.int .i64 n2) ∧ W.cell? ⟨(al.add (i * 7)).block, (al.add (i * 7)).off + 3, none⟩ = some (.string s2) ∧ W.cell? ⟨(al.add (i * 7)).block, (al.add (i * 7)).off + 4, none⟩ = some (.string t2) ∧ W.cell? ⟨(al.add (i * 7)).block, (al.add (i * 7)).off + 5, none⟩ = some (.string u2) ∧ W.cell? ⟨(al.add (i * 7)).block, (al.add (i * 7)).off + 6, none⟩ = some (.slice C6 0 e6) ∧ Below wr.heap.size wr W)) := ⟨fun W hW => ⟨(hW.cell (World.block_lt_of_cell? _ _ g0)).trans g0, (hW.cell (World.block_lt_of_cell? _ _ g1)).trans g1, (hW.cell (World.block_lt_of_cell? _ _ g2)).trans g2, (hW.cell (World.block_lt_of_cell? _ _ g3)).trans g3, (hW.cell (World.block_lt_of_cell? _ _ g4)).trans g4, (hW.cell (World.block_lt_of_cell? _ _ g5)).trans g5, (hW.cell (World.block_lt_of_cell? _ _ g6)).trans g6, (hW.cell (World.block_lt_of_cell? _ _ f0)).trans f0, (hW.cell (World.block_lt_of_cell? _ _ f1)).trans f1, (hW.cell (World.block_lt_of_cell? _ _ f2)).trans f2, (hW.cell (World.block_lt_of_cell? _ _ f3)).trans f3, (hW.cell (World.block_lt_of_cell? _ _ f4)).trans f4, (hW.cell (World.block_lt_of_cell? _ _ f5)).trans f5, (hW.cell (World.block_lt_of_cell? _ _ f6)).trans f6, hW⟩⟩
                have hW0 := Below.refl wr.heap.size wr
                go_region_held3 (fun W => W.cell? (ao.add (k * 7)) = some (.int .i64 k1) ∧ W.cell? ⟨(ao.add (k * 7)).block, (ao.add (k * 7)).off + 1, none⟩ = some (.bool b1) ∧ W.cell? ⟨(ao.add (k * 7)).block, (ao.add (k * 7)).off + 2, none⟩ = some (.int .i64 n1) ∧ W.cell? ⟨(ao.add (k * 7)).block, (ao.add (k * 7)).off + 3, none⟩ = some (.string s1) ∧ W.cell? ⟨(ao.add (k * 7)).block, (ao.add (k * 7)).off + 4, none⟩ = some (.string t1) ∧ W.cell? ⟨(ao.add (k * 7)).block, (ao.add (k * 7)).off + 5, none⟩ = some (.string u1) ∧ W.cell? ⟨(ao.add (k * 7)).block, (ao.add (k * 7)).off + 6, none⟩ = some (.slice B6 0 d6) ∧ W.cell? (al.add (i * 7)) = some (.int .i64 k2) ∧ W.cell? ⟨(al.add (i * 7)).block, (al.add (i * 7)).off + 1, none⟩ = some (.bool b2) ∧ W.cell? ⟨(al.add (i * 7)).block, (al.add (i * 7)).off + 2, none⟩ = some (.int .i64 n2) ∧ W.cell? ⟨(al.add (i * 7)).block, (al.add (i * 7)).off + 3, none⟩ = some (.string s2) ∧ W.cell? ⟨(al.add (i * 7)).block, (al.add (i * 7)).off + 4, none⟩ = some (.string t2) ∧ W.cell? ⟨(al.add (i * 7)).block, (al.add (i * 7)).off + 5, none⟩ = some (.string u2) ∧ W.cell? ⟨(al.add (i * 7)).block, (al.add (i * 7)).off + 6, none⟩ = some (.slice C6 0 e6) ∧ Below wr.heap.size wr W)
                  ((go_split_ands; exact HK.out _ (by first | assumption | (apply below_drew1; assumption) | exact below_step (by assumption) hb)))
                  ((go_at_call 61; refine (HLC.out _).mono ?_; rintro e w2 ⟨⟨bq, rfl⟩, hb⟩))
                all_goals go_split_ands
                all_goals (have HS2 := Aside0.mk (HS.out.step (by assumption)); clear HK hW0)
                all_goals (go_wp2_with fail)
                all_goals go_meet
                all_goals exact ⟨rfl, ⟨_, rfl, fun _ => Hko.out⟩, HS2⟩
              · have p2 : ((k : Int) < (out.length : Int)) = False := eq_false (by omega)
                have p3 : decide ((k : Int) < (out.length : Int)) = false := decide_eq_false (by omega)
                clear hko
                go_quiet (fail)
                all_goals (go_wp2_with fail)
                all_goals go_meet
                all_goals exact ⟨rfl, ⟨_, rfl, fun h => by cases h⟩, ⟨HS.out.step (by repeat (first | exact Below.refl _ _ | apply pw_below_drewN | apply below_drew1))⟩⟩
            case rest =>
              obtain ⟨rfl, ⟨b, rfl, hb⟩, HSc⟩ := hcut
              have Hb := Aside0.mk hb
              clear hb HS
              rename_i wc_
              cases b with
              | true =>
                go_wp2
                go_roundg (out.length - (k + 1))
                case rel => exact ⟨k + 1, by rw [GP.wr_succ (by have := Hb.out trivial; have := Hil.out; have := Hl.out; have := HSc.out.le; omega)], Hb.out trivial, rfl, HSc⟩
                case measure => have := Hb.out trivial; omega
              | false =>
                go_wp2
                clear Hb
                go_cut [7, 71] from 57 to 71 (fun s7 s wx => s7 = .int .i64 (k : Int) ∧ (∃ b, s = .bool b ∧ (b = true → k < out.length)) ∧ Aside0 (StS w i (.slice A5 out.length c5) out wx))
                case first =>
                  by_cases hko : k < out.length
                  · obtain ⟨ao, B6, d6, k1, n1, b1, s1, t1, u1, rfl, hq1, g0, g1, g2, g3, g4, g5, g6⟩ := at_flat (Kd.N_reads' HSc.out.hn).2.2 HSc.out.fl hko
                    obtain ⟨al, C6, e6, k2, n2, b2, s2, t2, u2, rfl, hq2, f0, f1, f2, f3, f4, f5, f6⟩ := at_flat (HC.out wc HSc.out.be) HF.out Hil.out
                    have p0 : (0 ≤ (k : Int)) = True := eq_true (by omega)
                    have p2 : ((k : Int) < (out.length : Int)) = True := eq_true (by omega)
                    have p3 : decide ((k : Int) < (out.length : Int)) = true := decide_eq_true (by omega)
                    have p4 : (0 ≤ (i : Int)) = True := eq_true (by omega)
                    have Hko := Aside0.mk hko
                    have HLC := Aside0.mk (rsame k1 n1 k2 n2 b1 b2 s1 t1 u1 s2 t2 u2 B6 C6 d6 e6)
                    clear hko hq1 hq2
                    have HK : Aside0 (∀ W, Below wc.heap.size wc W → (W.cell? (ao.add (k * 7)) = some (.int .i64 k1) ∧ W.cell? ⟨(ao.add (k * 7)).block, (ao.add (k * 7)).off + 1, none⟩ = some (.bool b1) ∧ W.cell? ⟨(ao.add (k * 7)).block, (ao.add (k * 7)).off + 2, none⟩ = some (.int .i64 n1) ∧ W.cell? ⟨(ao.add (k * 7)).block, (ao.add (k * 7)).off + 3, none⟩ = some (.string s1) ∧ W.cell? ⟨(ao.add (k * 7)).block, (ao.add (k * 7)).off + 4, none⟩ = some (.string t1) ∧ W.cell? ⟨(ao.add (k * 7)).block, (ao.add (k * 7)).off + 5, none⟩ = some (.string u1) ∧ W.cell? ⟨(ao.add (k * 7)).block, (ao.add (k * 7)).off + 6, none⟩ = some (.slice B6 0 d6) ∧ W.cell? (al.add (i * 7)) = some (.int .i64 k2) ∧ W.cell? ⟨(al.add (i * 7)).block, (al.add (i * 7)).off + 1, none⟩ = some (.bool b2) ∧ W.cell? ⟨(al.add (i * 7)).block, (al.add (i * 7)).off + 2, none⟩ = some (.int .i64 n2) ∧ W.cell? ⟨(al.add (i * 7)).block, (al.add (i * 7)).off + 3, none⟩ = some (.string s2) ∧ W.cell? ⟨(al.add (i * 7)).block, (al.add (i * 7)).off + 4, none⟩ = some (.string t2) ∧ W.cell? ⟨(al.add (i * 7)).block, (al.add (i * 7)).off + 5, none⟩ = some (.string u2) ∧ W.cell? ⟨(al.add (i * 7)).block, (al.add (i * 7)).off + 6, none⟩ = some (.slice C6 0 e6) ∧ Below wc.heap.size wc W)) := ⟨fun W hW => ⟨(hW.cell (World.block_lt_of_cell? _ _ g0)).trans g0, (hW.cell (World.block_lt_of_cell? _ _ g1)).trans g1, (hW.cell (World.block_lt_of_cell? _ _ g2)).trans g2, (hW.cell (World.block_lt_of_cell? _ _ g3)).trans g3, (hW.cell (World.block_lt_of_cell? _ _ g4)).trans g4, (hW.cell (World.block_lt_of_cell? _ _ g5)).trans g5, (hW.cell (World.block_lt_of_cell? _ _ g6)).trans g6, (hW.cell (World.block_lt_of_cell? _ _ f0)).trans f0, (hW.cell (World.block_lt_of_cell? _ _ f1)).trans f1, (hW.cell (World.block_lt_of_cell? _ _ f2)).trans f2, (hW.cell (World.block_lt_of_cell? _ _ f3)).trans f3, (hW.cell (World.block_lt_of_cell? _ _ f4)).trans f4, (hW.cell (World.block_lt_of_cell? _ _ f5)).trans f5, (hW.cell (World.block_lt_of_cell? _ _ f6)).trans f6, hW⟩⟩
                    have hW0 := Below.refl wc.heap.size wc
                    go_region_held3 (fun W => W.cell? (ao.add (k * 7)) = some (.int .i64 k1) ∧ W.cell? ⟨(ao.add (k * 7)).block, (ao.add (k * 7)).off + 1, none⟩ = some (.bool b1) ∧ W.cell? ⟨(ao.add (k * 7)).block, (ao.add (k * 7)).off + 2, none⟩ = some (.int .i64 n1) ∧ W.cell? ⟨(ao.add (k * 7)).block, (ao.add (k * 7)).off + 3, none⟩ = some (.string s1) ∧ W.cell? ⟨(ao.add (k * 7)).block, (ao.add (k * 7)).off + 4, none⟩ = some (.string t1) ∧ W.cell? ⟨(ao.add (k * 7)).block, (ao.add (k * 7)).off + 5, none⟩ = some (.string u1) ∧ W.cell? ⟨(ao.add (k * 7)).block, (ao.add (k * 7)).off + 6, none⟩ = some (.slice B6 0 d6) ∧ W.cell? (al.add (i * 7)) = some (.int .i64 k2) ∧ W.cell? ⟨(al.add (i * 7)).block, (al.add (i * 7)).off + 1, none⟩ = some (.bool b2) ∧ W.cell? ⟨(al.add (i * 7)).block, (al.add (i * 7)).off + 2, none⟩ = some (.int .i64 n2) ∧ W.cell? ⟨(al.add (i * 7)).block, (al.add (i * 7)).off + 3, none⟩ = some (.string s2) ∧ W.cell? ⟨(al.add (i * 7)).block, (al.add (i * 7)).off + 4, none⟩ = some (.string t2) ∧ W.cell? ⟨(al.add (i * 7)).block, (al.add (i * 7)).off + 5, none⟩ = some (.string u2) ∧ W.cell? ⟨(al.add (i * 7)).block, (al.add (i * 7)).off + 6, none⟩ = some (.slice C6 0 e6) ∧ Below wc.heap.size wc W)
                      ((go_split_ands; exact HK.out _ (by first | assumption | (apply below_drew1; assumption) | exact below_step (by assumption) hb)))
                      ((go_at_call 62; refine (HLC.out _).mono ?_; rintro e w2 ⟨⟨bq, rfl⟩, hb⟩))
                    all_goals go_split_ands
                    all_goals (have HS2 := Aside0.mk (HSc.out.step (by assumption)); clear HK hW0)
                    all_goals (go_wp2_with fail)
                    all_goals go_meet
                    all_goals exact ⟨rfl, ⟨_, rfl, fun _ => Hko.out⟩, HS2⟩
                  · have p2 : ((k : Int) < (out.length : Int)) = False := eq_false (by omega)
                    have p3 : decide ((k : Int) < (out.length : Int)) = false := decide_eq_false (by omega)
                    clear hko
                    go_quiet (fail)
                    all_goals (go_wp2_with fail)
                    all_goals go_meet
                    all_goals exact ⟨rfl, ⟨_, rfl, fun h => by cases h⟩, ⟨HSc.out.step (by repeat (first | exact Below.refl _ _ | apply pw_below_drewN | apply below_drew1))⟩⟩
                case rest =>
                  obtain ⟨rfl, ⟨b, rfl, hb⟩, HSd⟩ := hcut
                  clear hb HSc
                  cases b with
                  | true =>
                    go_wp2
                    go_roundg (l.length - (i + 1))
                    case rel => exact ⟨i + 1, out, by rw [GP.wr_succ (by have := Hil.out; have := Hl.out; omega)], Hil.out, rfl, ⟨⟨HSd.out.hn, HSd.out.fl, Nat.le_succ_of_le HSd.out.le, HSd.out.be, HSd.out.bx⟩⟩⟩
                    case measure => have := Hil.out; omega
                  | false =>
                    obtain ⟨al, C6, e6, k2, n2, b2, s2, t2, u2, hAl, hq2, f0, f1, f2, f3, f4, f5, f6⟩ := at_flat (HC.out wc HSd.out.be) HF.out Hil.out
                    subst hAl
                    have HFW : Aside0 (∀ W, Below wc.heap.size wc W → (W.cell? (al.add (i * 7)) = some (.int .i64 k2) ∧ W.cell? ⟨(al.add (i * 7)).block, (al.add (i * 7)).off + 1, none⟩ = some (.bool b2) ∧ W.cell? ⟨(al.add (i * 7)).block, (al.add (i * 7)).off + 2, none⟩ = some (.int .i64 n2) ∧ W.cell? ⟨(al.add (i * 7)).block, (al.add (i * 7)).off + 3, none⟩ = some (.string s2) ∧ W.cell? ⟨(al.add (i * 7)).block, (al.add (i * 7)).off + 4, none⟩ = some (.string t2) ∧ W.cell? ⟨(al.add (i * 7)).block, (al.add (i * 7)).off + 5, none⟩ = some (.string u2) ∧ W.cell? ⟨(al.add (i * 7)).block, (al.add (i * 7)).off + 6, none⟩ = some (.slice C6 0 e6))) := ⟨fun W hW => ⟨(hW.cell (World.block_lt_of_cell? _ _ f0)).trans f0, (hW.cell (World.block_lt_of_cell? _ _ f1)).trans f1, (hW.cell (World.block_lt_of_cell? _ _ f2)).trans f2, (hW.cell (World.block_lt_of_cell? _ _ f3)).trans f3, (hW.cell (World.block_lt_of_cell? _ _ f4)).trans f4, (hW.cell (World.block_lt_of_cell? _ _ f5)).trans f5, (hW.cell (World.block_lt_of_cell? _ _ f6)).trans f6⟩⟩
                    have HF5 : Aside0 (∀ W, Below wc.heap.size wc W → Kd.F k39 W (fun q => w.heap.size < q ∧ q < wc.heap.size) A5 out.length out) := ⟨fun W hW => Kd.N_F (Kd.N_old HSd.out.hn hW)⟩
                    have Hc5 := Aside0.mk (Kd.N_reads' HSd.out.hn).2.1
                    have HLT := Aside0.mk (GT.lt_of_heapT HSd.out.bx)
                    have HTK : Aside0 (Kd.F k39 wc (fun q => w.heap.size < q ∧ q < wc.heap.size) A5 k (out.take k)) := ⟨by
                      have h := Kd.F_take (HF5.out wc (Below.refl _ _)) Hk.out
                      rwa [List.length_take, Nat.min_eq_left Hk.out] at h⟩
                    have HDR : Aside0 (∀ W, Below wc.heap.size wc W → Kd.F k39 W (fun q => w.heap.size < q ∧ q < wc.heap.size) (if c5 = k then A5 else A5.map (·.add (k * 7))) (out.length - k) (out.drop k)) := ⟨fun W hW => by
                      have h := Kd.F_cut (HF5.out W hW) Hk.out Hc5.out
                      rwa [List.length_drop] at h⟩
                    have p2 : (0 ≤ (k : Int)) = True := eq_true (by omega)
                    have p3 : ((k : Int) ≤ (out.length : Int)) = True := eq_true (by have := Hk.out; omega)
                    have p4 : ((k : Int) ≤ (c5 : Int)) = True := eq_true (by have := Hk.out; have := Hc5.out; omega)
                    have p5 : ((out.length : Int) ≤ (c5 : Int)) = True := eq_true (by have := Hc5.out; omega)
                    have p6 : (0 ≤ (i : Int)) = True := eq_true (by omega)
                    have p7 : k ≤ c5 := by have := Hk.out; have := Hc5.out; omega
                    have p8 : k ≤ out.length := Hk.out
                    have p9 : out.length ≤ c5 := Hc5.out
                    clear f0 f1 f2 f3 f4 f5 f6 hq2
                    go_wp2_with (first | (at_builtin; refine Kd.N_append_rows k39 (w0 := wc) wc.heap.size rfl (.tmp 72) (.tmp 75) 37 39 (.agg #[.int .i64 0, .bool false, .int .i64 0, .string ⟨#[]⟩, .string ⟨#[]⟩, .string ⟨#[]⟩, .slice none 0 0]) 96 rfl Tryz.underlying37 info39 rfl (by decide) (by omega) (.slice none 0 0) [] (out.take k) _ k _ (fun q => w.heap.size < q) (fun q => w.heap.size < q ∧ q < wc.heap.size) rfl rfl ?aO ?aR ?aP ?aF ?aB ?aS ?aL ?_; (case aO => exact Kd.N_nil _ _ _ _ _); (case aR => exact HTK.out); (case aP => intro q hq; exact ⟨hq.1, by simp [Value.ownBlock]⟩); (case aF => intro q hq; have := HLT.out; omega); (case aB => exact Below.refl _ _); (case aS => exact Nat.le_refl _); (case aL => have := Hl.out; have := Hk.out; have := HSd.out.le; have := Hil.out; simp; omega); intro v3 w3 hN3 hB3 hg3 hat3; rw [List.nil_append] at hN3; have hl3 : (out.take k).length = k := (by rw [List.length_take]; have := Hk.out; omega); obtain ⟨A6, c6, rfl⟩ := Kd.N_slice hN3; rw [hl3] at hN3 ⊢; have HN3 := Aside0.mk hN3; have HB3 := Aside0.mk hB3; obtain ⟨r0, r1, r2, r3, r4, r5, r6⟩ := HFW.out w3 hB3; clear hN3 hB3 hg3 hat3 hl3) | (at_builtin; refine Kd.N_append k39 (w0 := wc) wc.heap.size rfl (.tmp 77) (.tmp 82) 37 39 (.agg #[.int .i64 0, .bool false, .int .i64 0, .string ⟨#[]⟩, .string ⟨#[]⟩, .string ⟨#[]⟩, .slice none 0 0]) 96 rfl Tryz.underlying37 info39 rfl (by decide) (by omega) (.slice A6 k c6) (out.take k) ⟨k2, b2, n2, s2, ⟨t2, u2⟩, []⟩ [.int .i64 k2, .bool b2, .int .i64 n2, .string s2, .string t2, .string u2, .slice C6 0 e6] (fun q => w.heap.size < q) (fun _ => False) rfl ?aX ?aK (fun _ h => h.elim) ?aF ?aO ?aB ?aS ?aL ?_; (case aX => rfl); (case aK => exact k39_mkF _ _ ⟨k2, b2, n2, s2, ⟨t2, u2⟩, []⟩ (A6 := C6) (c6 := e6) (Nat.zero_le _) (fun W' _ => C_nil0 W' C6)); (case aF => intro q hq; have := HLT.out; have := HB3.out.size; omega); (case aO => exact HN3.out); (case aB => exact HB3.out); (case aS => exact HB3.out.size); (case aL => have := Hl.out; have := Hk.out; have := HSd.out.le; have := Hil.out; rw [List.length_take]; omega); intro v4 w4 hN4 hB4 hg4 hat4; obtain ⟨A7, c7, rfl⟩ := Kd.N_slice hN4; have hl4 : (out.take k ++ [(⟨k2, b2, n2, s2, ⟨t2, u2⟩, []⟩ : Vl)]).length = k + 1 := (by rw [List.length_append, List.length_take]; have := Hk.out; simp; omega); rw [hl4] at hN4 ⊢; have HN4 := Aside0.mk hN4; have HB4 := Aside0.mk hB4; clear hN4 hB4 hg4 hat4 hl4 r0 r1 r2 r3 r4 r5 r6) | (at_builtin; refine Kd.N_append_rows k39 (w0 := wc) wc.heap.size rfl (.tmp 84) (.tmp 87) 37 39 (.agg #[.int .i64 0, .bool false, .int .i64 0, .string ⟨#[]⟩, .string ⟨#[]⟩, .string ⟨#[]⟩, .slice none 0 0]) 96 rfl Tryz.underlying37 info39 rfl (by decide) (by omega) (.slice A7 (k + 1) c7) (out.take k ++ [⟨k2, b2, n2, s2, ⟨t2, u2⟩, []⟩]) (out.drop k) _ (out.length - k) _ (fun q => w.heap.size < q) (fun q => w.heap.size < q ∧ q < wc.heap.size) rfl rfl ?aO ?aR ?aP ?aF ?aB ?aS ?aL ?_; (case aO => exact HN4.out); (case aR => exact HDR.out _ HB4.out); (case aP => intro q hq; exact ⟨hq.1, fun e => by have := Kd.N_base HN4.out q e.symm; omega⟩); (case aF => intro q hq; have := HLT.out; have := HB4.out.size; omega); (case aB => exact HB4.out); (case aS => exact HB4.out.size); (case aL => have := Hl.out; have := Hk.out; have := HSd.out.le; have := Hil.out; rw [List.length_append, List.length_take]; simp; omega); intro v5 w5 hN5 hB5 hg5 hat5; have HN5 := Aside0.mk hN5; have HB5 := Aside0.mk hB5; clear hN5 hB5 hg5 hat5))
                    all_goals (
                      go_roundg (l.length - (i + 1))
                      case rel => exact ⟨i + 1, out.take k ++ [⟨k2, b2, n2, s2, ⟨t2, u2⟩, []⟩] ++ out.drop k, by rw [GP.wr_succ (by have := Hil.out; have := Hl.out; omega)], Hil.out, rfl, ⟨⟨Kd.N_lower HN5.out (by have := HLT.out; omega), fun x hx => by
                        simp only [List.append_assoc, List.mem_append, List.mem_cons, List.not_mem_nil, or_false, false_or] at hx
                        rcases hx with hx | rfl | hx
                        · exact HSd.out.fl x (List.mem_of_mem_take hx)
                        · rfl
                        · exact HSd.out.fl x (List.mem_of_mem_drop hx), by have := HSd.out.le; simp; omega, below_step HSd.out.be HB5.out, (HB5.out.block _ HLT.out).trans HSd.out.bx⟩⟩⟩
                      case measure => have := Hil.out; omega)
        · have p1 : ((i : Int) < (l.length : Int)) = False := eq_false (by omega)
          clear hi hil
          by_cases h8 : 8 < out.length
          · have p8 : ((8 : Int) < (out.length : Int)) = True := eq_true (by omega)
            clear h8
            have z0 := (blk_cell HS.out.bx 0).trans rfl
            have z1 := (blk_cell HS.out.bx 1).trans rfl
            have z2 := (blk_cell HS.out.bx 2).trans rfl
            have z3 := (blk_cell HS.out.bx 3).trans rfl
            have z4 := (blk_cell HS.out.bx 4).trans rfl
            have z5 := (blk_cell HS.out.bx 5).trans rfl
            have z6 := (blk_cell HS.out.bx 6).trans rfl
            have y0 := blk_frozen HS.out.bx 0
            have y1 := blk_frozen HS.out.bx 1
            have y2 := blk_frozen HS.out.bx 2
            have y3 := blk_frozen HS.out.bx 3
            have y4 := blk_frozen HS.out.bx 4
            have y5 := blk_frozen HS.out.bx 5
            have y6 := blk_frozen HS.out.bx 6
            go_wp2
            refine bodyPost_ret (results_ct rfl _ _ w.heap.size 39 #[.int .i64 0, .bool false, .int .i64 0, .string (⟨#[]⟩ : ByteArray), .string (⟨#[]⟩ : ByteArray), .string (⟨#[]⟩ : ByteArray), .slice none 0 0] (0, 0) _ rfl (put7 HS.out.bx _ _ _ _ _ _ _) Tryz.underlying39 rfl (by kernel_rfl)) rfl ?_
            exact ⟨_, _, _, _, _, _, _, _, [], rfl, Kd.N_nil _ _ _ _ _, by simp, Nat.zero_le _, below7 HS.out.be (Nat.le_refl _) _ _ _ _ _ _ _⟩
          · have p8 : ((8 : Int) < (out.length : Int)) = False := eq_false (by omega)
            have H8 := Aside0.mk h8
            clear h8
            have z0 := (blk_cell HS.out.bx 0).trans rfl
            have z1 := (blk_cell HS.out.bx 1).trans rfl
            have z2 := (blk_cell HS.out.bx 2).trans rfl
            have z3 := (blk_cell HS.out.bx 3).trans rfl
            have z4 := (blk_cell HS.out.bx 4).trans rfl
            have z5 := (blk_cell HS.out.bx 5).trans rfl
            have z6 := (blk_cell HS.out.bx 6).trans rfl
            have y0 := blk_frozen HS.out.bx 0
            have y1 := blk_frozen HS.out.bx 1
            have y2 := blk_frozen HS.out.bx 2
            have y3 := blk_frozen HS.out.bx 3
            have y4 := blk_frozen HS.out.bx 4
            have y5 := blk_frozen HS.out.bx 5
            have y6 := blk_frozen HS.out.bx 6
            go_wp2
            refine bodyPost_ret (results_ct rfl _ _ w.heap.size 39 #[.int .i64 5, .bool false, .int .i64 0, .string (⟨#[]⟩ : ByteArray), .string (⟨#[]⟩ : ByteArray), .string (⟨#[]⟩ : ByteArray), .slice A5 out.length c5] (0, 0) _ rfl (put7 HS.out.bx _ _ _ _ _ _ _) Tryz.underlying39 rfl (by kernel_rfl)) rfl ?_
            exact ⟨_, _, _, _, _, _, _, _, out, rfl, Kd.N_mono (far7 HS.out.hn (fun k hk he => by omega) _ _ _ _ _ _ _) (fun q hq => by omega), HS.out.fl, by have := H8.out; omega, below7 HS.out.be (Nat.le_refl _) _ _ _ _ _ _ _⟩
end Go.Proofs.YtelibndkkokadaaGreat.GA
namespace Go.Proofs.YtelibndkkokadaaGreat.GA
open Go.RowKit Go.Proofs.YtelibndkkokadaaGreatW.PrintWords Go.Proofs.YtelibndkkokadaaGreatW.PrintLast Go.Proofs.YtelibndkkokadaaGreat.HandV Go.Proofs.YtelibndkkokadaaGreatW.PrintMore
open Go.Proofs.YtelibndkkokadaaGreat.GB
attribute [local go_sem] max2_int min2_int max_two min_two max_three min_three max_four min_four   -- for this text's walks alone
set_option linter.unusedVariables false
set_option linter.unusedSimpArgs false
-- IMPORT .B3
-- IMPORT .Sqz
-- IMPORT .P1r
-- FN chancellaw3_within
-- FN chancellaw3_Plain
abbrev Rw := S94
theorem within3_calls (a m : Int) (hm : 0 < m) (hm2 : m ≤ 1000000) (w : World) : Calls Tryz.prog 40 #[.int .i64 a, .int .i64 m] w fun e w' => ∃ r : Int, e = .returned (.int .i64 r) ∧ 0 ≤ r ∧ r < m ∧ Below w.heap.size w w' := by
  obtain ⟨r, hr, h0, h1⟩ := GP.within_tot3 a m hm hm2
  exact (chancellaw3_within.calls a m r w hr).mono fun e w' ⟨he, nd, hw⟩ => ⟨r, he, h0, h1, by rw [hw]; exact pw_below_drewN (Below.refl _ _) nd⟩
theorem plain3_calls (a n : Int) (s : List Int) (l : List Rw) (kd : Int) (h1 : 1 ≤ kd) (h2 : kd ≤ 4) (A2 A3 : Option Addr) (c2 c3 : Nat) (w : World) (hr2 : (Kd.int .i64).C w A2 s.length s) (hc2 : s.length ≤ c2) (hr3 : k94.C w A3 l.length l) (hc3 : l.length ≤ c3) :
    Calls Tryz.prog 41 #[.agg #[.int .i64 a, .int .i64 n, .slice A2 s.length c2, .slice A3 l.length c3], .int .i64 kd] w fun e w' => ∃ (k n : Int) (b : Bool) (s t u : ByteArray) (A : Option Addr) (c : Nat), e = .returned (.agg #[.int .i64 k, .bool b, .int .i64 n, .string s, .string t, .string u, .slice A 0 c]) ∧ Kd.N k39 39 w' w.heap.size (fun q => w.heap.size ≤ q) (.slice A 0 c) [] ∧ Below w.heap.size w w' := by
  obtain ⟨⟨k, b, n', s', t, u, r⟩, he, _, hr⟩ := GP.plain_tot a n s l kd h1 h2
  obtain rfl : r = [] := hr
  obtain ⟨j, hj⟩ := he.rounds
  refine (chancellaw3_Plain.calls j a n A2 c2 s A3 c3 l kd k b n' s' t u [] w hr2 hc2 hr3 hc3 hj).mono ?_
  rintro e w' ⟨v, rfl, hR, hb⟩
  have hN := Kd.N_mono (ok' := fun q => w.heap.size ≤ q) (Kd.R_N (Kd.R_bound hR)) (fun q hq => hq.2.1)
  obtain ⟨A, c, rfl⟩ := Kd.N_slice hN
  exact ⟨k, n', b, s', t, u, A, c, rfl, hN, hb⟩
theorem blk_new2 (w : World) (o1 o2 : Obj) : ((w.alloc o1).alloc o2).heap[w.heap.size + 1]? = some o2 := by
  have h := blk_new (w.alloc o1) o2
  have hs : (w.alloc o1).heap.size = w.heap.size + 1 := by simp
  rw [hs] at h
  exact h
theorem zV_cells {W : World} {g : Nat} (h : W.heap[g]? = some zV) : W.cell? ⟨g, 0, none⟩ = some (.int .i64 0) ∧ W.cell? ⟨g, 1, none⟩ = some (.bool false) ∧ W.cell? ⟨g, 2, none⟩ = some (.int .i64 0) ∧ W.cell? ⟨g, 3, none⟩ = some (.string ⟨#[]⟩) ∧ W.cell? ⟨g, 4, none⟩ = some (.string ⟨#[]⟩) ∧ W.cell? ⟨g, 5, none⟩ = some (.string ⟨#[]⟩) ∧ W.cell? ⟨g, 6, none⟩ = some (.slice none 0 0) ∧ W.frozen? ⟨g, 0, none⟩ = false ∧ W.frozen? ⟨g, 1, none⟩ = false ∧ W.frozen? ⟨g, 2, none⟩ = false ∧ W.frozen? ⟨g, 3, none⟩ = false ∧ W.frozen? ⟨g, 4, none⟩ = false ∧ W.frozen? ⟨g, 5, none⟩ = false ∧ W.frozen? ⟨g, 6, none⟩ = false :=
  ⟨(blk_cell h 0).trans rfl, (blk_cell h 1).trans rfl, (blk_cell h 2).trans rfl, (blk_cell h 3).trans rfl, (blk_cell h 4).trans rfl, (blk_cell h 5).trans rfl, (blk_cell h 6).trans rfl, blk_frozen h 0, blk_frozen h 1, blk_frozen h 2, blk_frozen h 3, blk_frozen h 4, blk_frozen h 5, blk_frozen h 6⟩
def rg_T8 : Bool × List (List Nat × List Nat) := (true, [([], []), ([], []), ([1], [1]), ([], []), ([2, 3], [2, 3]), ([4], [4]), ([], []), ([6], [6]), ([7], [7]), ([8], [8]), ([9], [9]), ([5, 10, 9], [5, 10]), ([11], [11]), ([0, 12, 11], [0, 12]), ([13, 13, 0, 1, 2, 3, 4, 5, 6, 7, 8, 9, 10, 11, 12, 13], [0, 13])])
def rg_B8 : List Nat := [0, 0, 2, 0, 14, 30, 0, 64, 192, 448, 960, 2046, 4094, 8191, 16383]
theorem rg_tab8 : rtab .any (opsOf Tryz.f28 8) = rg_T8 := by kernel_rfl
theorem rg_bits8 : waitsOk rg_T8.2 rg_B8 = true := by kernel_rfl
structure StG (w : World) (a n : Int) (A2 : Option Addr) (m2 c2 : Nat) (A3 : Option Addr) (m3 c3 : Nat) (v4 : Value) (out : List Vl) (wx : World) : Prop where
  hn : Kd.N k39 39 wx w.heap.size (fun q => w.heap.size + 1 < q) v4 out
  fl : ∀ x ∈ out, FlatV x
  be : Below w.heap.size w wx
  b0 : wx.heap[w.heap.size]? = some (.cells #[.int .i64 a, .int .i64 n, .slice A2 m2 c2, .slice A3 m3 c3] 94 (0, 0))
  b1 : wx.heap[w.heap.size + 1]? = some zV
theorem StG.step {w : World} {a n : Int} {A2 : Option Addr} {m2 c2 : Nat} {A3 : Option Addr} {m3 c3 : Nat} {v4 : Value} {out : List Vl} {wx wy : World} (h : StG w a n A2 m2 c2 A3 m3 c3 v4 out wx) (hb : Below wx.heap.size wx wy) : StG w a n A2 m2 c2 A3 m3 c3 v4 out wy :=
  ⟨Kd.N_below h.hn hb, h.fl, below_step h.be hb, (hb.block _ (GT.lt_of_heapT h.b0)).trans h.b0, (hb.block _ (GT.lt_of_heapT h.b1)).trans h.b1⟩
set_option maxRecDepth 100000 in
set_option maxHeartbeats 8000000 in
theorem rgood (a n : Int) (s : List Int) (l : List Rw) (A2 A3 : Option Addr) (c2 c3 : Nat) (w : World) (hr2 : (Kd.int .i64).C w A2 s.length s) (hc2 : s.length ≤ c2) (hr3 : k94.C w A3 l.length l) (hc3 : l.length ≤ c3) :
    Calls Tryz.prog 28 #[.agg #[.int .i64 a, .int .i64 n, .slice A2 s.length c2, .slice A3 l.length c3]] w fun e w' => ∃ (k n : Int) (b : Bool) (s t u : ByteArray) (v : Value) (r : List Vl), e = .returned (.agg #[.int .i64 k, .bool b, .int .i64 n, .string s, .string t, .string u, v]) ∧ Kd.N k39 39 w' w.heap.size (fun q => w.heap.size ≤ q) v r ∧ (∀ x ∈ r, FlatV x) ∧ r.length ≤ 8 ∧ Below w.heap.size w w' := by
  have HR2 := Aside0.mk hr2
  have HR3 := Aside0.mk hr3
  have Hc2 := Aside0.mk hc2
  have Hc3 := Aside0.mk hc3
  have HW := Aside0.mk (within3_calls a 5 (by decide) (by decide))
  clear hr2 hc2 hr3 hc3
  go_enter Tryz.func28, Tryz.ntmps28
  go_wp2_with (first | (go_at_call 40; refine (HW.out _).mono ?_; rintro e w2 ⟨r, rfl, h0, h1, hb⟩; have H0 := Aside0.mk h0; have H1 := Aside0.mk h1; have HS : Aside0 (StG w a n A2 s.length c2 A3 l.length c3 (.slice none 0 0) [] w2) := ⟨⟨Kd.N_nil _ _ _ _ _, by simp, below_step (by repeat (first | exact Below.refl _ _ | apply below_alloc)) hb, (hb.block _ (by simp; omega)).trans (blk_alloc (blk_new _ _) _), (hb.block _ (by simp)).trans (blk_new2 w _ _)⟩⟩; clear h0 h1 hb; have hw : wrap64 (1 + r) = 1 + r := GP.wr_id (by have := H0.out; omega) (by have := H1.out; omega); obtain ⟨q0, q1, q2, q3⟩ : w2.cell? ⟨w.heap.size, 0, none⟩ = some (.int .i64 a) ∧ w2.cell? ⟨w.heap.size, 1, none⟩ = some (.int .i64 n) ∧ w2.cell? ⟨w.heap.size, 2, none⟩ = some (.slice A2 s.length c2) ∧ w2.cell? ⟨w.heap.size, 3, none⟩ = some (.slice A3 l.length c3) := ⟨(blk_cell HS.out.b0 0).trans rfl, (blk_cell HS.out.b0 1).trans rfl, (blk_cell HS.out.b0 2).trans rfl, (blk_cell HS.out.b0 3).trans rfl⟩) | (go_at_call 41; refine (plain3_calls a n s l (1 + r) (by have := H0.out; omega) (by omega) A2 A3 c2 c3 _ (Kd.C_below HR2.out HS.out.be) Hc2.out (Kd.C_below HR3.out HS.out.be) Hc3.out).mono ?_; rintro e w3 ⟨k', n', b', s', t', u', A', c', rfl, hn, hb⟩; have HN := Aside0.mk hn; have HS3 := Aside0.mk (HS.out.step hb); obtain ⟨z0, z1, z2, z3, z4, z5, z6, y0, y1, y2, y3, y4, y5, y6⟩ := zV_cells HS3.out.b1; clear hb hn))
  · refine bodyPost_ret (results_cell_row rfl _ _ (w.heap.size + 1) 39 #[.int .i64 k', .bool b', .int .i64 n', .string s', .string t', .string u', .slice A' 0 c'] (0, 0) _ rfl (put7 HS3.out.b1 _ _ _ _ _ _ _) Tryz.underlying39 rfl (by kernel_rfl)) rfl ?_
    have h1 := GT.lt_of_heapT HS.out.b1
    exact ⟨_, _, _, _, _, _, _, [], rfl, Kd.N_mono (far7 (Kd.N_mono (ok' := fun q => w.heap.size + 1 < q) (Kd.N_lower HN.out (by omega)) (fun q hq => by omega)) (fun k hk he => by omega) _ _ _ _ _ _ _) (fun q hq => by omega), by simp, Nat.zero_le _, below7 HS3.out.be (by omega) _ _ _ _ _ _ _⟩
  · clear q0 q1 q2 q3 hw
    go_loopg [4, 5] 8 (fun g v4 v5 wx => ∃ (i : Nat) (out : List Vl), v5 = .int .i64 (i : Int) ∧ i ≤ 8 ∧ out.length = i ∧ g = 8 - i ∧ Aside0 (StG w a n A2 s.length c2 A3 l.length c3 v4 out wx))
    case atStart => exact ⟨0, [], rfl, by omega, rfl, rfl, HS⟩
    case round =>
      clear HS
      obtain ⟨i, out, rfl, hi, ho, rfl, HS⟩ := hrel
      obtain ⟨A5, c5, rfl⟩ := Kd.N_slice HS.out.hn
      have Hi := Aside0.mk hi
      have Ho := Aside0.mk ho
      have q3 : wr.cell? ⟨w.heap.size, 3, none⟩ = some (.slice A3 l.length c3) := (blk_cell HS.out.b0 3).trans rfl
      clear hi ho
      go_upto_region 6 with (fail)
      go_cut [25] (fun v25 wc => (∃ b, v25 = .bool b ∧ (b = true → i < l.length ∧ i < 8)) ∧ Aside0 (StG w a n A2 s.length c2 A3 l.length c3 (.slice A5 out.length c5) out wc))
      case first =>
        by_cases hil : i < l.length
        · have p1 : ((i : Int) < (l.length : Int)) = True := eq_true (by omega)
          by_cases hi8 : i < 8
          · have p2 : ((i : Int) < 8) = True := eq_true (by omega)
            have Hx := Aside0.mk hil
            have Hy := Aside0.mk hi8
            clear hil hi8
            go_wp2
            go_meet
            case rel => exact ⟨⟨_, rfl, fun _ => ⟨Hx.out, Hy.out⟩⟩, HS⟩
          · have p2 : ((i : Int) < 8) = False := eq_false (by omega)
            clear hil hi8
            go_wp2
            go_meet
            case rel => exact ⟨⟨_, rfl, fun h => by cases h⟩, HS⟩
        · have p1 : ((i : Int) < (l.length : Int)) = False := eq_false (by omega)
          clear hil
          go_wp2
          go_meet
          case rel => exact ⟨⟨_, rfl, fun h => by cases h⟩, HS⟩
      case rest =>
        clear q3 HS
        obtain ⟨⟨b, rfl, hb⟩, HS⟩ := hcut
        have Hb := Aside0.mk hb
        clear hb
        cases b with
        | true =>
          have HI := Aside0.mk (Hb.out rfl)
          clear Hb
          obtain ⟨ad, B2, d2, B3, d3, rfl, g0, g1, g2, g3, e2, E2, e3, E3⟩ := at_T94 HR3.out (i : Int) (by omega) (by have := HI.out.1; omega)
          rw [Int.toNat_natCast] at g0 g1 g2 g3
          obtain ⟨x, hx⟩ : ∃ x, rd_T94 l (i : Int) = x := ⟨_, rfl⟩
          rw [hx] at g0 g1 g2 g3 e2 E2 e3 E3
          have He2 := Aside0.mk e2
          have He3 := Aside0.mk e3
          have HE2 := Aside0.mk E2
          have HE3 := Aside0.mk E3
          clear e2 E2 e3 E3 hx
          have p0 : (0 ≤ (i : Int)) = True := eq_true (by omega)
          have p1 : ((i : Int) < (l.length : Int)) = True := eq_true (by have := HI.out.1; omega)
          have HK : Aside0 (∀ v o W, StG w a n A2 s.length c2 (some ad) l.length c3 v o W → (W.cell? ⟨w.heap.size, 0, none⟩ = some (.int .i64 a) ∧ W.cell? ⟨w.heap.size, 3, none⟩ = some (.slice (some ad) l.length c3) ∧ W.cell? (ad.add (i * 4)) = some (.int .i64 x.f0) ∧ W.cell? ⟨(ad.add (i * 4)).block, (ad.add (i * 4)).off + 1, none⟩ = some (.int .i64 x.f1) ∧ W.cell? ⟨(ad.add (i * 4)).block, (ad.add (i * 4)).off + 2, none⟩ = some (.slice B2 x.f2.length d2) ∧ W.cell? ⟨(ad.add (i * 4)).block, (ad.add (i * 4)).off + 3, none⟩ = some (.slice B3 x.f3.length d3))) := ⟨fun v o W hW => ⟨(blk_cell hW.b0 0).trans rfl, (blk_cell hW.b0 3).trans rfl, (hW.be.cell (World.block_lt_of_cell? _ _ g0)).trans g0, (hW.be.cell (World.block_lt_of_cell? _ _ g1)).trans g1, (hW.be.cell (World.block_lt_of_cell? _ _ g2)).trans g2, (hW.be.cell (World.block_lt_of_cell? _ _ g3)).trans g3⟩⟩
          have HW4 := Aside0.mk (within3_calls (wrap64 (Int.tdiv a 5)) 4 (by decide) (by decide))
          clear g0 g1 g2 g3
          have HSd : Aside0 (StG w a n A2 s.length c2 (some ad) l.length c3 (.slice A5 out.length c5) out wc.drew) := ⟨HS.out.step (below_drew1 (Below.refl _ _))⟩
          go_wp2
          refine start_ (n := 15) (S := fun W => W.cell? ⟨w.heap.size, 0, none⟩ = some (.int .i64 a) ∧ W.cell? ⟨w.heap.size, 3, none⟩ = some (.slice (some ad) l.length c3) ∧ W.cell? (ad.add (i * 4)) = some (.int .i64 x.f0) ∧ W.cell? ⟨(ad.add (i * 4)).block, (ad.add (i * 4)).off + 1, none⟩ = some (.int .i64 x.f1) ∧ W.cell? ⟨(ad.add (i * 4)).block, (ad.add (i * 4)).off + 2, none⟩ = some (.slice B2 x.f2.length d2) ∧ W.cell? ⟨(ad.add (i * 4)).block, (ad.add (i * 4)).off + 3, none⟩ = some (.slice B3 x.f3.length d3)) (ds := []) #[false, false, false, false, false, false, false, false, false, false, false, false, false, false, false] (by kernel_rfl) rfl rfl (HK.out _ _ _ HSd.out) (fun hHeld => ?_)
          refine with_tabW rg_tab8 rg_bits8 (fun HT_ HW_ => ?_)
          generalize wc.drew = wd at HSd hHeld ⊢
          refine pS_ 0 28 (fa 15 1) HT_ ?_
          refine pS_ 1 29 (fa 15 3) HT_ ?_
          refine pS_ 3 31 (fa 15 11) HT_ ?_
          refine pS_ 6 34 (fa 15 75) HT_ ?_
          refine tS_ 2 30 (fa 15 79) HT_ HW_ hHeld ?_
          refine pS_ 4 32 (fa 15 95) HT_ ?_
          refine tS_ 5 33 (fa 15 127) HT_ HW_ hHeld ?_
          refine tS_ 7 35 (fa 15 255) HT_ HW_ hHeld ?_
          refine pS_ 8 36 (fa 15 511) HT_ ?_
          refine one_ (i := 9) (N := some 37) #[true, true, true, true, true, true, true, true, true, true, false, false, false, false, false] rfl rfl (one_of HT_.out (by kernel_rfl)) (by decide) (fun K hK => ?_)
          refine goes_ Tryz.func40 (by kernel_rfl) rfl #[.int .i64 (wrap64 (Int.tdiv a 5)), .int .i64 4] (by rfl) rfl rfl gm_ ?_
          refine (HW4.out _).mono ?_
          rintro e w4 ⟨r2, rfl, h0, h1, hb⟩
          refine ⟨_, rfl, ?_⟩
          have HS4 := Aside0.mk (HSd.out.step hb)
          have H20 := Aside0.mk h0
          have H21 := Aside0.mk h1
          clear h0 h1 hb HSd
          refine hK.out _ _ (HK.out _ _ _ HS4.out) (fun hHeld => ?_)
          clear hK K
          refine norm_ (a' := ?_) ?_ ?_
          rotate_left
          · show Act.put _ (some 37) _ = _
            simp only [Act.put, List.setIfInBounds_toArray, List.set_cons_zero, List.set_cons_succ, i64_w, i32_w]
            rfl
          refine pS_ 10 38 (fa 15 2047) HT_ ?_
          refine one_ (i := 11) (N := some 39) #[true, true, true, true, true, true, true, true, true, true, true, true, false, false, false] rfl rfl (one_of HT_.out (by kernel_rfl)) (by decide) (fun K hK => ?_)
          refine goes_ Tryz.func41 (by kernel_rfl) rfl #[.agg #[.int .i64 x.f0, .int .i64 x.f1, .slice B2 x.f2.length d2, .slice B3 x.f3.length d3], .int .i64 (wrap64 (1 + r2))] (by rfl) rfl rfl gm_ ?_
          have hw2 : 1 ≤ wrap64 (1 + r2) ∧ wrap64 (1 + r2) ≤ 4 := by rw [GP.wr_id (by have := H20.out; omega) (by have := H21.out; omega)]; have := H20.out; have := H21.out; omega
          refine (plain3_calls x.f0 x.f1 x.f2 x.f3 (wrap64 (1 + r2)) hw2.1 hw2.2 B2 B3 d2 d3 _ (Kd.C_below HE2.out HS4.out.be) He2.out (Kd.C_below HE3.out HS4.out.be) He3.out).mono ?_
          rintro e w5 ⟨k', n', b', s', t', u', A', c', rfl, hn, hb⟩
          refine ⟨_, rfl, ?_⟩
          have HS5 := Aside0.mk (HS4.out.step hb)
          clear hb hn HS4 hw2
          refine hK.out _ _ (HK.out _ _ _ HS5.out) (fun hHeld => ?_)
          clear hK K
          refine norm_ (a' := ?_) ?_ ?_
          rotate_left
          · show Act.put _ (some 39) _ = _
            simp only [Act.put, List.setIfInBounds_toArray, List.set_cons_zero, List.set_cons_succ, i64_w, i32_w]
            rfl
          refine one_ (i := 12) (N := some 40) #[true, true, true, true, true, true, true, true, true, true, true, true, true, false, false] rfl rfl (one_of HT_.out (by kernel_rfl)) (by decide) (fun K hK => ?_)
          refine value_ (w1 := ?_) (v := ?_) (by rfl) rfl ?_ ?_
          rotate_left 2
          · go_simp
            constructor
            · rfl
            · rfl
          refine hK.out _ _ (HK.out _ _ _ (HS5.out.step (below_alloc (Below.refl _ _) _))) (fun hHeld => ?_)
          clear hK K
          refine norm_ (a' := ?_) ?_ ?_
          rotate_left
          · show Act.put _ (some 40) _ = _
            simp only [Act.put, List.setIfInBounds_toArray, List.set_cons_zero, List.set_cons_succ, i64_w, i32_w]
            rfl
          refine one_ (i := 13) (N := some 41) #[true, true, true, true, true, true, true, true, true, true, true, true, true, true, false] rfl rfl (one_of HT_.out (by kernel_rfl)) (by decide) (fun K hK => ?_)
          refine Kd.N_append_step k39 (w0 := w) w.heap.size (by rfl) (.tmp 28) (.tmp 40) 37 39 (.agg #[.int .i64 0, .bool false, .int .i64 0, .string ⟨#[]⟩, .string ⟨#[]⟩, .string ⟨#[]⟩, .slice none 0 0]) 96 rfl Tryz.underlying37 info39 rfl (by decide) (by omega) (.slice A5 out.length c5) out ⟨k', b', n', s', ⟨t', u'⟩, []⟩ [.int .i64 k', .bool b', .int .i64 n', .string s', .string t', .string u', .slice A' 0 c'] (fun q => w.heap.size + 1 < q) (fun _ => False) rfl rfl ?aP (fun _ h => h.elim) ?aF ?aO ?aB ?aS ?aL ?_
          (case aP => exact k39_mkF _ _ ⟨k', b', n', s', ⟨t', u'⟩, []⟩ (A6 := A') (c6 := c') (Nat.zero_le _) (fun W' _ => C_nil0 W' A'))
          (case aF => intro q hq; have := GT.lt_of_heapT HS5.out.b1; omega)
          (case aO => exact HS5.out.hn)
          (case aB => exact HS5.out.be)
          (case aS => exact HS5.out.be.size)
          (case aL => have := Ho.out; have := Hi.out; omega)
          intro v6 w6 hN6 hB6 hg6 hat6
          have HS6 : Aside0 (StG w a n A2 s.length c2 (some ad) l.length c3 v6 (out ++ [⟨k', b', n', s', ⟨t', u'⟩, []⟩]) w6) := ⟨⟨hN6, fun y hy => by (rcases List.mem_append.1 hy with hy | hy; exact HS5.out.fl y hy; obtain rfl := List.mem_singleton.1 hy; rfl), hB6, blk_grown HS5.out.b0 hg6 (Kd.N_away HS5.out.hn (fun k hk he => by omega)), blk_grown HS5.out.b1 hg6 (Kd.N_away HS5.out.hn (fun k hk he => by omega))⟩⟩
          clear hN6 hB6 hg6 hat6 HS5
          refine hK.out _ _ (HK.out _ _ _ HS6.out) (fun hHeld => ?_)
          clear hK K
          refine norm_ (a' := ?_) ?_ ?_
          rotate_left
          · show Act.put _ (some 41) _ = _
            simp only [Act.put, List.setIfInBounds_toArray, List.set_cons_zero, List.set_cons_succ, i64_w, i32_w]
            rfl
          refine pS_ 14 4 (fa 15 32767) HT_ ?_
          refine done_ (done_of HT_.out (by kernel_rfl)) ?_
          go_wp2
          go_roundg (8 - (i + 1))
          case rel => exact ⟨i + 1, out ++ [⟨k', b', n', s', ⟨t', u'⟩, []⟩], by rw [GP.wr_succ (by have := Hi.out; omega)], HI.out.2, by have := Ho.out; simp; omega, rfl, HS6⟩
          case measure => have := HI.out.2; omega
        | false =>
          clear Hb
          have hc5 := Aside0.mk (Kd.N_reads' HS.out.hn).2.1
          have HCC : Aside0 (∀ W, Below wc.heap.size wc W → k39.C W A5 out.length out) := ⟨fun W hW => (Kd.N_reads' (Kd.N_below HS.out.hn hW)).2.2⟩
          go_wp2_with (first | (go_at_call 42; refine (rset out HS.out.fl (by have := Ho.out; have := Hi.out; omega) A5 c5 _ hc5.out HCC.out).mono ?_; rintro e w7 ⟨k', n', er, b', s', t', u', v', r', rfl, hn, hfl, hl8, hb⟩; obtain ⟨A', c', rfl⟩ := Kd.N_slice hn; have HN := Aside0.mk hn; have HFL := Aside0.mk hfl; have HL8 := Aside0.mk hl8; have HS7 := Aside0.mk (HS.out.step hb); obtain ⟨z0, z1, z2, z3, z4, z5, z6, y0, y1, y2, y3, y4, y5, y6⟩ := zV_cells HS7.out.b1; have hlt := GT.lt_of_heapT HS7.out.b1; have hne1 : w7.heap.size ≠ w.heap.size + 1 := (by omega); have hne2 : w.heap.size + 1 ≠ w7.heap.size := (by omega); clear hn hfl hl8 hb))
          have hw1 := HS.out.be.size
          have hw2 := GT.lt_of_heapT HS.out.b1
          refine bodyPost_ret (results_cell_row rfl _ _ (w.heap.size + 1) 39 #[.int .i64 k', .bool b', .int .i64 n', .string s', .string t', .string u', .slice A' r'.length c'] (0, 0) _ rfl (blk_alloc (put7 HS7.out.b1 _ _ _ _ _ _ _) _) Tryz.underlying39 rfl (by kernel_rfl)) rfl ?_
          exact ⟨_, _, _, _, _, _, _, r', rfl, Kd.N_alloc (Kd.N_mono (far7 (Kd.N_lower HN.out (by omega)) (fun k hk he => by omega) _ _ _ _ _ _ _) (fun q hq => by omega)) _, HFL.out, HL8.out, below_alloc (below7 HS7.out.be (by omega) _ _ _ _ _ _ _) _⟩
end Go.Proofs.YtelibndkkokadaaGreat.GA
