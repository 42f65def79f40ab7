import Derived.Test.YtelibndkkokadaaGB0
import Derived.Test.YtelibndkkokadaaJw
import Derived.Test.YtelibndkkokadaaJr
import Derived.Test.YtelibndkkokadaaSqz
import Derived.Test.YtelibndkkokadaaJy
import Derived.Test.YtelibndkkokadaaT0
import Derived.Test.YtelibndkkokadaaJe
import Derived.Test.YtelibndkkokadaaSS1
import Derived.Test.YtelibndkkokadaaGB1
import Derived.Deep.RegionWith
import Derived.Deep.CutRange
import Derived.Deep.QuietTactic
import Derived.BigQuiet
namespace Go.Proofs.Ytelibndkkokadaa.EV
open Go.RowKit Go.Proofs.YtelibndkkokadaaW.PrintWords Go.Proofs.YtelibndkkokadaaW.PrintLast Go.Proofs.Ytelibndkkokadaa.HandV Go.Proofs.YtelibndkkokadaaW.PrintMore
open Go.Proofs.Ytelibndkkokadaa.GB
attribute [local go_sem] max2_int min2_int max_two min_two max_three min_three max_four min_four   -- for this text's walks alone
set_option linter.unusedVariables false
set_option linter.unusedSimpArgs false
-- IMPORT .EV12
-- IMPORT .GG2s
-- IMPORT .Sqz
open GA (En okL okU)
open GP (AnyG)
theorem first_of (P : Nat → Prop) : ∀ n, P n → ∃ j, j ≤ n ∧ P j ∧ ∀ q, q < j → ¬ P q := by
  intro n
  induction n using Nat.strongRecOn with
  | _ n ih =>
    intro h
    by_cases hx : ∃ q, q < n ∧ P q
    · obtain ⟨q, hq, hp⟩ := hx
      obtain ⟨j, hj, h1, h2⟩ := ih q hq hp
      exact ⟨j, by omega, h1, h2⟩
    · exact ⟨n, Nat.le_refl _, h, fun q hq hp => hx ⟨q, hq, hp⟩⟩
/-- What there is of an attribute among entities. -/
inductive Out (g : List En) (u : GA.U) (s : ByteArray) : Vl → Int → Prop
  | has (i j : Nat) (hi : i < g.length) (hu : g[i].f0 = u) (hn : ∀ q (h : q < g.length), q < i → g[q].f0 ≠ u) (hj : j < g[i].f2.length) (hs : g[i].f2[j].f0 = s) (hb : ∀ q (h : q < g[i].f2.length), q < j → g[i].f2[q].f0 ≠ s) : Out g u s g[i].f2[j].f1 0
  | name (i : Nat) (hi : i < g.length) (hu : g[i].f0 = u) (hn : ∀ q (h : q < g.length), q < i → g[q].f0 ≠ u) (hb : ∀ q (h : q < g[i].f2.length), g[i].f2[q].f0 ≠ s) : Out g u s zVl 15
  | gone (hn : ∀ q (h : q < g.length), g[q].f0 ≠ u) : Out g u s zVl 18
theorem Out.ne16 {g : List En} {u : GA.U} {s : ByteArray} {x : Vl} {er : Int} (h : Out g u s x er) : er ≠ 16 := by cases h <;> decide
theorem sm_parts {e : En} (h : GT.smE e = true) : e.f2.length ≤ 1000000 ∧ ∀ a ∈ e.f2, GT.smV a.f1 = true := by
  unfold GT.smE at h
  simp only [Bool.and_eq_true, decide_eq_true_eq, List.all_eq_true] at h
  exact h.2
theorem out_all (g : List En) (hA : AnyG g) (u : GA.U) (s : ByteArray) : ∃ x er, Out g u s x er ∧ ∀ (A : Option Addr) (c : Nat) (p0 p1 p2 p3 p4 p5 : ByteArray) (w : World), g.length ≤ c → k38.C w A g.length g → Calls Try.prog 118 #[.agg #[.slice A g.length c, .string p0, .string p1, .string p2, .string p3, .string p4, .string p5], .iface 192 (.agg #[.string u.f0, .string u.f1]), .string s] w (Gv w x er) := by
  have hl := GP.anyG_ok hA
  cases hb : GT.atB g u.f0 u.f1 with
  | true =>
    obtain ⟨e, he, rfl⟩ := GA.atB_some hb
    obtain ⟨hi, hge⟩ := List.getElem?_eq_some_iff.1 he
    have hm : e ∈ g := List.mem_of_getElem? he
    obtain ⟨hlen, hs⟩ := sm_parts (GA.okL_mem hl hm).2.2.1
    have hF := find_there g hl e hb he
    have hn : ∀ q (h : q < g.length), q < GT.atI g e.f0.f0 e.f0.f1 → g[q].f0 ≠ e.f0 := by
      intro q h hq heq
      have h1 := List.pairwise_iff_getElem.1 hA.1 q _ h hi hq
      rw [hge, heq, GA.ltU_irr] at h1
      cases h1
    generalize GT.atI g e.f0.f0 e.f0.f1 = i at hi hge hn
    subst hge
    by_cases hx : ∃ j, ∃ hj : j < g[i].f2.length, g[i].f2[j].f0 = s
    · obtain ⟨j0, hj0, hs0⟩ := hx
      obtain ⟨j, hj, ⟨hjl, hjs⟩, hbe⟩ := first_of (fun j => ∃ hj : j < g[i].f2.length, g[i].f2[j].f0 = s) j0 ⟨hj0, hs0⟩
      have hbe' : ∀ q (h : q < g[i].f2.length), q < j → g[i].f2[q].f0 ≠ s := fun q h hq heq => hbe q hq ⟨h, heq⟩
      exact ⟨_, _, .has i j hi rfl hn hjl hjs hbe', fun A c p0 p1 p2 p3 p4 p5 w hc hC => wget_ok g hl A c p0 p1 p2 p3 p4 p5 s _ hF j hjl hjs hbe' hs hlen w hc hC⟩
    · have hbe' : ∀ q (h : q < g[i].f2.length), g[i].f2[q].f0 ≠ s := fun q h heq => hx ⟨q, h, heq⟩
      exact ⟨_, _, .name i hi rfl hn hbe', fun A c p0 p1 p2 p3 p4 p5 w hc hC => wget_name g A c p0 p1 p2 p3 p4 p5 s _ hF hbe' hlen w hc hC⟩
  | false =>
    have hn : ∀ q (h : q < g.length), g[q].f0 ≠ u := by
      intro q h heq
      have h1 := (GP.atB_iff g ((GP.sortedE_iff g).1 hA.1) u.f0 u.f1).2 ⟨g[q], List.getElem_mem h, by rw [← heq]⟩
      rw [hb] at h1
      cases h1
    exact ⟨_, _, .gone hn, fun A c p0 p1 p2 p3 p4 p5 w hc hC => wget_gone g A c p0 p1 p2 p3 p4 p5 s u (find_gone g hl u hb) w hc hC⟩
/-- What Expr answers at a tree that asks for an attribute, or whether there is one. -/
theorem ask_get (g : List En) (u : GA.U) (s : ByteArray) (x : Vl) (er : Int) (A : Option Addr) (c : Nat) (hc : g.length ≤ c) (hG : ∀ w, k38.C w A g.length g → Calls Try.prog 118 #[.agg #[.slice A g.length c, .string ⟨#[]⟩, .string ⟨#[]⟩, .string ⟨#[]⟩, .string ⟨#[]⟩, .string ⟨#[]⟩, .string ⟨#[]⟩], .iface 192 (.agg #[.string u.f0, .string u.f1]), .string s] w (Gv w x er)) (W : World) (gk : Nat) (hC : k38.C W A g.length g) (hk : W.heap[gk]? = some (.cells #[.int .i64 4, .bool false, .int .i64 0, .string ⟨#[]⟩, .string u.f0, .string u.f1, .slice none 0 0] 72 (0, 0))) :
    Calls Try.prog 43 #[.slice A g.length c, .agg #[.string ⟨#[]⟩, .string ⟨#[]⟩, .string ⟨#[]⟩, .string ⟨#[]⟩, .string ⟨#[]⟩, .string ⟨#[]⟩], .agg #[.int .i64 7, .bool false, .int .i64 0, .string s, .string ⟨#[]⟩, .string ⟨#[]⟩, .slice (some ⟨gk, 0, none⟩) 1 1]] W (Gv W x er) :=
  Expr_g A g.length c _ _ _ _ _ _ 7 false 0 s _ _ _ 1 1 x er W (fun W1 h1 => expr_one A g.length c _ _ _ _ _ _ 7 false 0 s _ _ gk 1 4 false 0 _ u.f0 u.f1 none 0 0 ⟨4, false, 0, ⟨#[]⟩, u.f0, u.f1⟩ x er (by decide) (by decide) W hk
    (expr_leaf A g.length c _ _ _ _ _ _ 4 false 0 _ _ _ _ ⟨4, false, 0, ⟨#[]⟩, u.f0, u.f1⟩ (by decide) (fun W => leaf_uid A g.length c _ _ _ _ _ _ false 0 _ _ _ _ W) W)
    (fun W2 h2 => single_get A g.length c _ _ _ _ _ _ false 0 s _ _ _ 1 1 false 0 _ _ _ none 0 0 x er W2 (fun W3 h3 => hG W3 (Kd.C_below (Kd.C_below hC h2) h3))) W1 h1)
theorem ask_has (g : List En) (u : GA.U) (s : ByteArray) (x : Vl) (er : Int) (h16 : er ≠ 16) (A : Option Addr) (c : Nat) (hc : g.length ≤ c) (hG : ∀ w, k38.C w A g.length g → Calls Try.prog 118 #[.agg #[.slice A g.length c, .string ⟨#[]⟩, .string ⟨#[]⟩, .string ⟨#[]⟩, .string ⟨#[]⟩, .string ⟨#[]⟩, .string ⟨#[]⟩], .iface 192 (.agg #[.string u.f0, .string u.f1]), .string s] w (Gv w x er)) (W : World) (gk : Nat) (hC : k38.C W A g.length g) (hk : W.heap[gk]? = some (.cells #[.int .i64 4, .bool false, .int .i64 0, .string ⟨#[]⟩, .string u.f0, .string u.f1, .slice none 0 0] 72 (0, 0))) :
    Calls Try.prog 43 #[.slice A g.length c, .agg #[.string ⟨#[]⟩, .string ⟨#[]⟩, .string ⟨#[]⟩, .string ⟨#[]⟩, .string ⟨#[]⟩, .string ⟨#[]⟩], .agg #[.int .i64 8, .bool false, .int .i64 0, .string s, .string ⟨#[]⟩, .string ⟨#[]⟩, .slice (some ⟨gk, 0, none⟩) 1 1]] W (Gv W (trVl (er == 0)) 0) :=
  Expr_g A g.length c _ _ _ _ _ _ 8 false 0 s _ _ _ 1 1 (trVl (er == 0)) 0 W (fun W1 h1 => expr_one A g.length c _ _ _ _ _ _ 8 false 0 s _ _ gk 1 4 false 0 _ u.f0 u.f1 none 0 0 ⟨4, false, 0, ⟨#[]⟩, u.f0, u.f1⟩ (trVl (er == 0)) 0 (by decide) (by decide) W hk
    (expr_leaf A g.length c _ _ _ _ _ _ 4 false 0 _ _ _ _ ⟨4, false, 0, ⟨#[]⟩, u.f0, u.f1⟩ (by decide) (fun W => leaf_uid A g.length c _ _ _ _ _ _ false 0 _ _ _ _ W) W)
    (fun W2 h2 => single_has A g.length c _ _ _ _ _ _ false 0 s _ _ _ 1 1 false 0 _ _ _ none 0 0 (trVl (er == 0)) 0 W2 (fun W3 h3 => has_of A g.length c _ _ _ _ _ _ s s _ x er h16 W3 (fun W4 h4 => hG W4 (Kd.C_below (Kd.C_below (Kd.C_below hC h2) h3) h4)))) W1 h1)
end Go.Proofs.Ytelibndkkokadaa.EV
namespace Go.Proofs.Ytelibndkkokadaa.EV
open Go.RowKit Go.Proofs.YtelibndkkokadaaW.PrintWords Go.Proofs.YtelibndkkokadaaW.PrintLast Go.Proofs.Ytelibndkkokadaa.HandV Go.Proofs.YtelibndkkokadaaW.PrintMore
open Go.Proofs.Ytelibndkkokadaa.GB
attribute [local go_sem] max2_int min2_int max_two min_two max_three min_three max_four min_four   -- for this text's walks alone
set_option linter.unusedVariables false
set_option linter.unusedSimpArgs false
-- IMPORT .EV13a
-- IMPORT .EV7
-- IMPORT .T0
-- IMPORT .B6
-- IMPORT .SS1
-- IMPORT .GB1
-- IMPORT .Sqz
-- IMPORT Derived.Deep.RegionWith
-- IMPORT Derived.Deep.CutRange
-- IMPORT Derived.Deep.QuietTactic
-- IMPORT Derived.BigQuiet
open GA (En okL okU Et)
open GP (AnyG)
set_option maxRecDepth 100000 in
set_option maxHeartbeats 16000000 in
theorem within13_any (a m : Int) (hm : 0 < m) (hm2 : m ≤ 1000000) : ∃ r : Nat, (r : Int) < m ∧ ∀ w : World, Calls Try.prog 42 #[.int .i64 a, .int .i64 m] w fun e w' => e = .returned (.int .i64 (r : Int)) ∧ w' = w := by
  have h1 := Int.tmod_lt_of_pos a hm
  have h2 := GP.tmod_gt a m hm
  have hz : (m == 0) = false := beq_eq_false_iff_ne.mpr (by omega)
  by_cases h : Int.tmod a m < 0
  · refine ⟨(Int.tmod a m + m).toNat, by omega, fun w => ?_⟩
    have e1 : (((Int.tmod a m + m).toNat : Nat) : Int) = Int.tmod a m + m := by omega
    have d1 : (Int.tmod a m < 0) = True := eq_true h
    have hw : IntKind.i64.wrap (Int.tmod a m + m) = Int.tmod a m + m := (i64_w _).trans (GP.wr_id (by omega) (by omega))
    rw [e1]
    clear e1
    go_enter Try.func42, Try.ntmps42
    go_wp2
    go_ret
    exact ⟨rfl, rfl⟩
  · refine ⟨(Int.tmod a m).toNat, by omega, fun w => ?_⟩
    have e1 : (((Int.tmod a m).toNat : Nat) : Int) = Int.tmod a m := by omega
    have d1 : (Int.tmod a m < 0) = False := eq_false h
    rw [e1]
    clear e1
    go_enter Try.func42, Try.ntmps42
    go_wp2
    go_ret
    exact ⟨rfl, rfl⟩
/-- The box of the uid that is asked for. -/
structure LH (w2 : World) (gu : Nat) (u : GA.U) (W : World) : Prop where
  bx : W.heap[gu]? = some (.cells #[.string u.f0, .string u.f1] 28 (0, 0))
  be : Below w2.heap.size w2 W
theorem LH.step {w2 W W' : World} {gu : Nat} {u : GA.U} (h : LH w2 gu u W) (hb : Below W.heap.size W W') : LH w2 gu u W' := ⟨blk_below h.bx hb, below_step h.be hb⟩
/-- What is known behind the two questions. -/
structure LF (w2 : World) (gu g3 g5 n5 : Nat) (u : GA.U) (q : Bool) (A5 : Option Addr) (c5 : Nat) (x : Vl) (A6 : Option Addr) (c6 : Nat) (W : World) : Prop where
  ub : W.heap[gu]? = some (.cells #[.string u.f0, .string u.f1] 28 (0, 0))
  hb : W.heap[g3]? = some (.cells #[.int .i64 1, .bool q, .int .i64 0, .string ⟨#[]⟩, .string ⟨#[]⟩, .string ⟨#[]⟩, .slice A5 0 c5] 55 (0, 0))
  vb : W.heap[g5]? = some (.cells #[.int .i64 x.f0, .bool x.f1, .int .i64 x.f2, .string x.f3, .string x.f4.f0, .string x.f4.f1, .slice A6 x.f5.length c6] 55 (0, 0))
  vv : Kd.V k55 55 W n5 (fun k => n5 ≤ k) (.slice A6 x.f5.length c6) x.f5
  be : Below w2.heap.size w2 W
theorem LF.step {w2 W W' : World} {gu g3 g5 n5 : Nat} {u : GA.U} {q : Bool} {A5 : Option Addr} {c5 : Nat} {x : Vl} {A6 : Option Addr} {c6 : Nat} (h : LF w2 gu g3 g5 n5 u q A5 c5 x A6 c6 W) (hb : Below W.heap.size W W') : LF w2 gu g3 g5 n5 u q A5 c5 x A6 c6 W' := ⟨blk_below h.ub hb, blk_below h.hb hb, blk_below h.vb hb, Kd.V_below h.vv hb, below_step h.be hb⟩
/-- An entity in memory. -/
theorem entC {W : World} {A : Option Addr} {g : List En} (h : k38.C W A g.length g) {i : Nat} (hi : i < g.length) : ∃ (ad : Addr) (A2 : Option Addr) (c2 : Nat) (A3 : Option Addr) (c3 : Nat), A = some ad ∧ W.cell? (ad.add (i * 4)) = some (.string g[i].f0.f0) ∧ W.cell? ⟨(ad.add (i * 4)).block, (ad.add (i * 4)).off + 1, none⟩ = some (.string g[i].f0.f1) ∧ W.cell? ⟨(ad.add (i * 4)).block, (ad.add (i * 4)).off + 2, none⟩ = some (.slice A2 g[i].f1.length c2) ∧ W.cell? ⟨(ad.add (i * 4)).block, (ad.add (i * 4)).off + 3, none⟩ = some (.slice A3 g[i].f2.length c3) ∧ g[i].f2.length ≤ c3 ∧ k58.C W A3 g[i].f2.length g[i].f2 := by
  obtain ⟨ad, A2, c2, A3, c3, e, g0, g1, g2, g3, _, _, l3, h3⟩ := at_T38 h (i : Int) (by omega) (by omega)
  have hrd : rd_T38 g (i : Int) = g[i] := by
    unfold rd_T38
    rw [Int.toNat_natCast, List.getD_eq_getElem?_getD, List.getElem?_eq_getElem hi]; rfl
  rw [hrd] at g0 g1 g2 g3 l3 h3
  rw [Int.toNat_natCast] at g0 g1 g2 g3
  exact ⟨ad, A2, c2, A3, c3, e, g0, g1, g2, g3, l3, h3⟩
theorem u_ne {a b : GA.U} (h : a ≠ b) : (a.f0.toList == b.f0.toList && (a.f1.toList == b.f1.toList)) = false := by
  cases hq : (a.f0.toList == b.f0.toList && (a.f1.toList == b.f1.toList)) with
  | false => rfl
  | true => exact absurd ((GP.eqU_iff a b).1 hq) h
theorem u_eq {a b : GA.U} (h : a = b) : (a.f0.toList == b.f0.toList && (a.f1.toList == b.f1.toList)) = true := (GP.eqU_iff a b).2 h
theorem u_ff {a b : Bool} (h : (a && b) = false) (k : (!a) = false ∧ (!b) = false) : False := by cases a <;> cases b <;> simp_all
theorem u_tt {a b : Bool} (h : (a && b) = true) (k : (!a) = true ∨ (!b) = true) : False := by cases a <;> cases b <;> simp_all
theorem cells2 {W : World} {g : Nat} {t : TypeId} {a0 a1 : Value} (h : W.heap[g]? = some (.cells #[a0, a1] t (0, 0))) : W.cell? ⟨g, 0, none⟩ = some a0 ∧ W.cell? ⟨g, 1, none⟩ = some a1 := ⟨(blk_cell h 0).trans rfl, (blk_cell h 1).trans rfl⟩
def rw21_T : Bool × List (List Nat × List Nat) := (true, [([], []), ([0], [0]), ([1], [1]), ([2], [2]), ([3, 2], [2, 3]), ([2, 4], [2, 4]), ([5, 2], [5]), ([6], [6]), ([6], [6]), ([6], [6]), ([8, 9, 6], [6, 8, 9]), ([10, 6], [6, 10]), ([11, 6], [6, 11]), ([6], [6]), ([12, 13, 6], [6, 12, 13]), ([14, 6], [6, 14]), ([15, 6], [6, 15]), ([7, 16, 6, 6], [6, 7, 16]), ([6, 17], [6, 17]), ([18, 17, 0, 1, 2, 3, 4, 5, 6, 7, 8, 9, 10, 11, 12, 13, 14, 15, 16, 17, 18], [18])])
def rw21_B : List Nat := [0, 1, 3, 7, 15, 31, 63, 127, 127, 127, 895, 1919, 3967, 127, 16255, 32639, 65407, 131071, 262143, 524287]
theorem rw21_tab : rtab .any (opsOf Try.f11 21) = rw21_T := by kernel_rfl
theorem rw21_bits : waitsOk rw21_T.2 rw21_B = true := by kernel_rfl
attribute [local go_sem high] eqA28
set_option maxRecDepth 100000 in
set_option maxHeartbeats 16000000 in
theorem has_calls (l0 : List S49) (A0 : Option Addr) (c0 : Nat) (n nm : Int) (th : Bool) (w : World) (hr : k49.C w A0 l0.length l0) (hc0 : l0.length ≤ c0) : Calls Try.prog 11 #[.slice A0 l0.length c0, .int .i64 n, .int .i64 nm, .bool th] w fun e w' => e = .returned (.bool true) ∧ Below w.heap.size w w' := by
  obtain ⟨r7, hr7, HW7'⟩ := within13_any nm 7 (by decide) (by decide)
  have HW7 := Aside0.mk HW7'
  have HR := Aside0.mk hr
  have HC0 := Aside0.mk hc0
  clear hr hc0 HW7'
  go_enter Try.func11, Try.ntmps11
  go_upto_region 5 with (first | (go_at_call 41; refine (known13_calls _).mono ?_; rintro e w1 ⟨rfl, hb⟩; have HB1 := Aside0.mk hb; clear hb) | (go_at_call 14; refine (GA.rgood8 l0 A0 c0 _ (Kd.C_below HR.out HB1.out) HC0.out).mono ?_; rintro e w2 ⟨v, g, rfl, hA, hN, hb⟩; have HA := Aside0.mk hA; obtain ⟨A, c, rfl⟩ := Kd.N_slice hN; have HN := Aside0.mk hN; have HB2 := Aside0.mk (below_step HB1.out hb); clear hA hN hb))
  have HX : Aside0 (LH w2 w2.heap.size ⟨⟨#[85, 115, 101, 114]⟩, ⟨#[110, 111, 116, 32, 104, 101, 114, 101]⟩⟩ (w2.alloc (.cells #[.string ⟨#[85, 115, 101, 114]⟩, .string ⟨#[110, 111, 116, 32, 104, 101, 114, 101]⟩] 28))) := ⟨⟨blk_new _ _, b_al _ _⟩⟩
  generalize w2.alloc (.cells #[.string ⟨#[85, 115, 101, 114]⟩, .string ⟨#[110, 111, 116, 32, 104, 101, 114, 101]⟩] 28) = w3 at HX ⊢
  have HC := Aside0.mk (Kd.N_reads' HN.out).2
  clear HN
  go_cut [29] from 24 to 37 (fun v29 wx => v29 = .bool (th && decide (0 < g.length)) ∧ w3 = wx)
  case first =>
    cases th with
    | false =>
      go_wp2
      go_meet
      case rel => exact ⟨rfl, rfl⟩
    | true =>
      by_cases hg : 0 < g.length
      · have d1 : ((0 : Int) < (g.length : Int)) = True := eq_true (by omega)
        have d2 : decide (0 < g.length) = true := decide_eq_true hg
        have HD := Aside0.mk d2
        clear d2
        go_wp2
        go_meet
        case rel => exact ⟨by rw [HD.out]; rfl, rfl⟩
      · have d1 : ((0 : Int) < (g.length : Int)) = False := eq_false (by omega)
        have d2 : decide (0 < g.length) = false := decide_eq_false hg
        have HD := Aside0.mk d2
        clear d2
        go_wp2
        go_meet
        case rel => exact ⟨by rw [HD.out]; rfl, rfl⟩
  case rest =>
    obtain ⟨rfl, rfl⟩ := hcut
    go_upto_if 29 with (fail)
    go_cut [2, 9, 10] from 24 to 37 (fun v2 v9 v10 wx => v2 = .int .i64 nm ∧ v9 = .slice A g.length c ∧ v10 = .pointer (some ⟨w2.heap.size, 0, none⟩) ∧ ∃ u : GA.U, Aside0 (LH w2 w2.heap.size u wx))
    case first =>
      cases hq : (th && decide (0 < g.length)) with
      | false =>
        go_wp2
        go_meet
        case rel => exact ⟨rfl, rfl, rfl, _, HX⟩
      | true =>
        have hg : 0 < g.length := by simp at hq; exact hq.2
        clear hq
        obtain ⟨z0, z1⟩ := cells2 HX.out.bx
        have f0 := blk_frozen HX.out.bx 0
        have f1 := blk_frozen HX.out.bx 1
        have hl12 := HA.out.2.2
        obtain ⟨r, hrl, HWr'⟩ := within13_any n (g.length : Int) (by omega) (by omega)
        have HWr := Aside0.mk HWr'
        obtain ⟨ad, A2, c2, A3, c3, rfl, e0, e1, e2, e3, _, _, _, _⟩ := at_T38 (Kd.C_below HC.out.2 HX.out.be) (r : Int) (by omega) (by omega)
        have d2 : ((r : Int) < (g.length : Int)) = True := eq_true hrl
        rw [Int.toNat_natCast] at e0 e1 e2 e3
        clear HWr'
        go_wp2_with (go_at_call 42; refine (HWr.out _).mono ?_; rintro e wj ⟨rfl, hw⟩; rw [hw]; clear hw)
        go_meet
        case rel => exact ⟨rfl, rfl, rfl, ⟨_, _⟩, ⟨⟨blk_put (cs' := #[.string _, .string _]) (blk_put (cs' := #[.string _, .string _]) HX.out.bx 0 _ rfl) 1 _ rfl, (HX.out.be.setCell (p := ⟨w2.heap.size, 0, none⟩) (Nat.le_refl _) _).setCell (p := ⟨w2.heap.size, 1, none⟩) (Nat.le_refl _) _⟩⟩⟩
    case rest =>
      clear HX
      obtain ⟨rfl, rfl, rfl, u, HX⟩ := hcut
      have d7 : ((r7 : Int) < 7) = True := eq_true hr7
      obtain ⟨s, hsn⟩ : ∃ s : ByteArray, (wc.alloc (.cells #[.string ⟨#[97]⟩, .string ⟨#[97, 103, 101]⟩, .string ⟨#[105, 102]⟩, .string ⟨#[99, 111, 110, 116, 97, 105, 110, 115]⟩, .string ⟨#[112, 114, 105, 110, 99, 105, 112, 97, 108]⟩, .string ⟨#[95, 120]⟩, .string ⟨#[110, 97, 109, 101]⟩] 9)).cell? ⟨wc.heap.size, r7, none⟩ = some (.string s) := by
        have h7 := blk_cell (blk_new wc (.cells #[.string ⟨#[97]⟩, .string ⟨#[97, 103, 101]⟩, .string ⟨#[105, 102]⟩, .string ⟨#[99, 111, 110, 116, 97, 105, 110, 115]⟩, .string ⟨#[112, 114, 105, 110, 99, 105, 112, 97, 108]⟩, .string ⟨#[95, 120]⟩, .string ⟨#[110, 97, 109, 101]⟩] 9 (0, 0))) r7
        have h8 : r7 = 0 ∨ r7 = 1 ∨ r7 = 2 ∨ r7 = 3 ∨ r7 = 4 ∨ r7 = 5 ∨ r7 = 6 := by omega
        rcases h8 with rfl | rfl | rfl | rfl | rfl | rfl | rfl <;> exact ⟨_, h7.trans rfl⟩
      go_upto_region 8 with (go_at_call 42; refine (HW7.out _).mono ?_; rintro e wj ⟨rfl, hw⟩; rw [hw]; clear hw)
      replace HX := Aside0.mk (HX.out.step (b_al wc (.cells #[.string ⟨#[97]⟩, .string ⟨#[97, 103, 101]⟩, .string ⟨#[105, 102]⟩, .string ⟨#[99, 111, 110, 116, 97, 105, 110, 115]⟩, .string ⟨#[112, 114, 105, 110, 99, 105, 112, 97, 108]⟩, .string ⟨#[95, 120]⟩, .string ⟨#[110, 97, 109, 101]⟩] 9 (0, 0))))
      generalize wc.alloc (.cells #[.string ⟨#[97]⟩, .string ⟨#[97, 103, 101]⟩, .string ⟨#[105, 102]⟩, .string ⟨#[99, 111, 110, 116, 97, 105, 110, 115]⟩, .string ⟨#[112, 114, 105, 110, 99, 105, 112, 97, 108]⟩, .string ⟨#[95, 120]⟩, .string ⟨#[110, 97, 109, 101]⟩] 9) = w4 at HX ⊢
      clear d7 hsn
      obtain ⟨x, er, hOut, hG⟩ := out_all g HA.out u s
      have h16 := hOut.ne16
      have HO := Aside0.mk hOut
      have HEg := Aside0.mk (fun W gk hC hk => ask_get g u s x er A c HC.out.1 (fun w hC => hG A c _ _ _ _ _ _ w HC.out.1 hC) W gk hC hk)
      have HEh := Aside0.mk (fun W gk hC hk => ask_has g u s x er h16 A c HC.out.1 (fun w hC => hG A c _ _ _ _ _ _ w HC.out.1 hC) W gk hC hk)
      clear hG hOut h16
      obtain ⟨z0, z1⟩ := cells2 HX.out.bx
      go_upto_region 10 with (go_at_call 43; refine (HEh.out _ _ (Kd.C_below HC.out.2 (below_alloc (below_alloc HX.out.be _) _)) (bn2 _ _ _)).mono ?_; rintro e w5 ⟨K5, rfl, hV, hb⟩; obtain ⟨A5, c5, rfl⟩ := Kd.V_slice hV; have HB5 : Aside0 (Below w4.heap.size w4 w5) := ⟨below_step (below_alloc (below_alloc (Below.refl _ _) _) _) hb⟩; have HX5 := Aside0.mk (HX.out.step HB5.out); have HF5 : Aside0 (w5.heap[w4.heap.size]? = some (.cells #[.int .i64 4, .bool false, .int .i64 0, .string ⟨#[]⟩, .string u.f0, .string u.f1, .slice none 0 0] 72 (0, 0))) := ⟨blk_below (blk_alloc (blk_new _ _) _) hb⟩; clear hV hb z0 z1; obtain ⟨y0, y1, y2, y3, y4, y5, y6⟩ := cells7 HF5.out; have hz5 := blk_lt HF5.out)
      go_upto_region 11 with (go_at_call 43; refine (HEg.out _ _ (Kd.C_below HC.out.2 (below_alloc (below_alloc HX5.out.be _) _)) (bn2 _ _ _)).mono ?_; rintro e w6 ⟨K6, rfl, hV, hb⟩; have HV6 := Aside0.mk hV; obtain ⟨A6, c6, rfl⟩ := Kd.V_slice hV; have HB6 : Aside0 (Below w5.heap.size w5 w6) := ⟨below_step (below_alloc (below_alloc (Below.refl _ _) _) _) hb⟩; have HX6 := Aside0.mk (HX5.out.step HB6.out); have HF6 : Aside0 (w6.heap[w5.heap.size]? = some (.cells #[.int .i64 1, .bool (er == 0), .int .i64 0, .string ⟨#[]⟩, .string ⟨#[]⟩, .string ⟨#[]⟩, .slice A5 0 c5] 55 (0, 0))) := ⟨blk_below (blk_alloc (blk_new _ _) _) hb⟩; clear hV hb y0 y1 y2 y3 y4 y5 y6)
      have HX : Aside0 (LF w2 w2.heap.size w5.heap.size w6.heap.size (w5.heap.size + 2) u (er == 0) A5 c5 x A6 c6 (w6.alloc (.cells #[.int .i64 x.f0, .bool x.f1, .int .i64 x.f2, .string x.f3, .string x.f4.f0, .string x.f4.f1, .slice A6 x.f5.length c6] 55))) := ⟨blk_alloc HX6.out.bx _, blk_alloc HF6.out _, blk_new _ _, Kd.V_alloc (Kd.V_lower (Kd.V_mono HV6.out (fun k hk => by simp at hk; omega)) (by simp)) _, below_alloc HX6.out.be _⟩
      have HB2' := Aside0.mk HB2.out
      clear HX6 HF6 HV6 HB6 HX5 HF5 HB5 HEg HEh hz5 HB2
      generalize w6.alloc (.cells #[.int .i64 x.f0, .bool x.f1, .int .i64 x.f2, .string x.f3, .string x.f4.f0, .string x.f4.f1, .slice A6 x.f5.length c6] 55) = w7 at HX ⊢
      generalize w5.heap.size + 2 = n5 at HX
      generalize w5.heap.size = g3 at HX ⊢
      generalize w6.heap.size = g5 at HX ⊢
      obtain ⟨y0, y1, y2, y3, y4, y5, y6⟩ := cells7 HX.out.hb
      cases HO.out with
      | gone hn =>
        have HN := Aside0.mk hn
        have hl12 := HA.out.2.2
        clear hn
        go_wp2
        clear y0 y1 y2 y3 y4 y5 y6
        go_loopw [17] (fun v17 wr => ∃ i : Nat, v17 = .int .i64 i ∧ i ≤ g.length ∧ LF w2 w2.heap.size g3 g5 n5 u false A5 c5 zVl A6 c6 wr) (fun v17 _ => g.length - (intOf v17).toNat)
        case atStart => exact ⟨0, rfl, Nat.zero_le _, HX.out⟩
        case round =>
          clear HX
          obtain ⟨i, rfl, hi, hX⟩ := hrel
          have HX := Aside0.mk hX
          clear hX
          by_cases hil : i < g.length
          · have d1 : ((i : Int) < (g.length : Int)) = True := eq_true (by omega)
            obtain ⟨ad, A2, c2, A3, c3, rfl, e0, e1, e2, e3, _, _⟩ := entC (Kd.C_below HC.out.2 HX.out.be) hil
            obtain ⟨z0, z1⟩ := cells2 HX.out.ub
            go_wp2
            go_quiet (fail)
            have hq := u_ne (HN.out i hil)
            replace HX := Aside0.mk (HX.out.step (pw_below_drewN (Below.refl _ _) nq))
            clear e0 e1 e2 e3 z0 z1
            go_wp2
            all_goals (first | (exfalso; refine u_ff hq ?_; assumption) | skip)
            go_roundw
            case rel => exact ⟨i + 1, by go_num, by omega, HX.out⟩
            case measure => simp [intOf]; omega
          · have d1 : ((i : Int) < (g.length : Int)) = False := eq_false (by omega)
            obtain ⟨y0, y1, y2, y3, y4, y5, y6⟩ := cells7 HX.out.hb
            go_wp2
            go_ret
            exact ⟨rfl, below_step HB2'.out HX.out.be⟩
      | name i hi hu hn hb =>
        have HBt := Aside0.mk hb
        clear hb
        have HN := Aside0.mk hn
        have HU := Aside0.mk hu
        have hl12 := HA.out.2.2
        have hat3 := (HA.out.2.1 _ (List.getElem_mem hi)).1.2.1
        clear hn hu
        go_wp2
        clear y0 y1 y2 y3 y4 y5 y6
        go_loopw [17] (fun v17 wr => ∃ q : Nat, v17 = .int .i64 q ∧ q ≤ i ∧ LF w2 w2.heap.size g3 g5 n5 u false A5 c5 zVl A6 c6 wr) (fun v17 _ => i + 1 - (intOf v17).toNat)
        case atStart => exact ⟨0, rfl, Nat.zero_le _, HX.out⟩
        case round =>
          clear HX
          obtain ⟨q, rfl, hq0, hX⟩ := hrel
          have HX := Aside0.mk hX
          clear hX
          have hql : q < g.length := by omega
          have d1 : ((q : Int) < (g.length : Int)) = True := eq_true (by omega)
          obtain ⟨ad, A2, c2, A3, c3, rfl, e0, e1, e2, e3, _, _⟩ := entC (Kd.C_below HC.out.2 HX.out.be) hql
          obtain ⟨z0, z1⟩ := cells2 HX.out.ub
          by_cases hqi : q < i
          · go_wp2
            go_quiet (fail)
            have hq := u_ne (HN.out q hql hqi)
            replace HX := Aside0.mk (HX.out.step (pw_below_drewN (Below.refl _ _) nq))
            clear e0 e1 e2 e3 z0 z1
            go_wp2
            all_goals (first | (exfalso; refine u_ff hq ?_; assumption) | skip)
            go_roundw
            case rel => exact ⟨q + 1, by go_num, by omega, HX.out⟩
            case measure => simp [intOf]; omega
          · obtain rfl : q = i := by omega
            go_wp2
            go_quiet (fail)
            have hq := u_eq HU.out
            replace HX := Aside0.mk (HX.out.step (pw_below_drewN (Below.refl _ _) nq))
            clear e0 e1 e2 e3 z0 z1
            go_wp2
            all_goals (first | (exfalso; refine u_tt hq ?_; assumption) | skip)
            go_loopw [18] (fun v18 wr => ∃ t : Nat, v18 = .int .i64 t ∧ t ≤ g[q].f2.length ∧ LF w2 w2.heap.size g3 g5 n5 u false A5 c5 zVl A6 c6 wr) (fun v18 _ => g[q].f2.length + 1 - (intOf v18).toNat)
            case atStart => exact ⟨0, rfl, Nat.zero_le _, HX.out⟩
            case round =>
              clear HX hq
              obtain ⟨t, rfl, ht, hX⟩ := hrel
              have HX := Aside0.mk hX
              clear hX
              obtain ⟨ad', A2', c2', A3', c3', ead, _, _, _, e3, l3, h3⟩ := entC (Kd.C_below HC.out.2 HX.out.be) hql
              cases ead
              by_cases htl : t < g[q].f2.length
              · have d2 : ((t : Int) < (g[q].f2.length : Int)) = True := eq_true (by omega)
                obtain ⟨ad3, A7, c7, rfl, x0, x1, x2, x3, x4, x5, x6, x7, _, _⟩ := atC h3 htl
                have hne := bs_ne (HBt.out t htl)
                clear h3
                go_wp2
                go_roundw
                case rel => exact ⟨t + 1, by go_num, by omega, HX.out⟩
                case measure => simp [intOf]; omega
              · have d2 : ((t : Int) < (g[q].f2.length : Int)) = False := eq_false (by omega)
                obtain ⟨y0, y1, y2, y3, y4, y5, y6⟩ := cells7 HX.out.hb
                clear h3
                go_wp2
                go_ret
                exact ⟨rfl, below_step HB2'.out HX.out.be⟩
      | has i j hi hu hn hj hs hb =>
        have HBt := Aside0.mk hb
        have HSt := Aside0.mk hs
        clear hb hs
        have HN := Aside0.mk hn
        have HU := Aside0.mk hu
        have hl12 := HA.out.2.2
        have hat3 := (HA.out.2.1 _ (List.getElem_mem hi)).1.2.1
        clear hn hu
        go_wp2
        clear y0 y1 y2 y3 y4 y5 y6
        go_loopw [17] (fun v17 wr => ∃ q : Nat, v17 = .int .i64 q ∧ q ≤ i ∧ LF w2 w2.heap.size g3 g5 n5 u true A5 c5 g[i].f2[j].f1 A6 c6 wr) (fun v17 _ => i + 1 - (intOf v17).toNat)
        case atStart => exact ⟨0, rfl, Nat.zero_le _, HX.out⟩
        case round =>
          clear HX
          obtain ⟨q, rfl, hq0, hX⟩ := hrel
          have HX := Aside0.mk hX
          clear hX
          have hql : q < g.length := by omega
          have d1 : ((q : Int) < (g.length : Int)) = True := eq_true (by omega)
          obtain ⟨ad, A2, c2, A3, c3, rfl, e0, e1, e2, e3, _, _⟩ := entC (Kd.C_below HC.out.2 HX.out.be) hql
          obtain ⟨z0, z1⟩ := cells2 HX.out.ub
          by_cases hqi : q < i
          · go_wp2
            go_quiet (fail)
            have hq := u_ne (HN.out q hql hqi)
            replace HX := Aside0.mk (HX.out.step (pw_below_drewN (Below.refl _ _) nq))
            clear e0 e1 e2 e3 z0 z1
            go_wp2
            all_goals (first | (exfalso; refine u_ff hq ?_; assumption) | skip)
            go_roundw
            case rel => exact ⟨q + 1, by go_num, by omega, HX.out⟩
            case measure => simp [intOf]; omega
          · obtain rfl : q = i := by omega
            go_wp2
            go_quiet (fail)
            have hq := u_eq HU.out
            replace HX := Aside0.mk (HX.out.step (pw_below_drewN (Below.refl _ _) nq))
            clear e0 e1 e2 e3 z0 z1
            go_wp2
            all_goals (first | (exfalso; refine u_tt hq ?_; assumption) | skip)
            go_loopw [18] (fun v18 wr => ∃ t : Nat, v18 = .int .i64 t ∧ t ≤ j ∧ LF w2 w2.heap.size g3 g5 n5 u true A5 c5 g[q].f2[j].f1 A6 c6 wr) (fun v18 _ => j + 1 - (intOf v18).toNat)
            case atStart => exact ⟨0, rfl, Nat.zero_le _, HX.out⟩
            case round =>
              clear HX hq
              obtain ⟨t, rfl, ht, hX⟩ := hrel
              have HX := Aside0.mk hX
              clear hX
              obtain ⟨ad', A2', c2', A3', c3', ead, _, _, _, e3, l3, h3⟩ := entC (Kd.C_below HC.out.2 HX.out.be) hql
              cases ead
              have htl : t < g[q].f2.length := by omega
              have d2 : ((t : Int) < (g[q].f2.length : Int)) = True := eq_true (by omega)
              obtain ⟨ad3, A7, c7, rfl, x0, x1, x2, x3, x4, x5, x6, x7, hl7, h7⟩ := atC h3 htl
              by_cases htj : t < j
              · have hne := bs_ne (HBt.out t htl htj)
                clear h3 h7
                go_wp2
                go_roundw
                case rel => exact ⟨t + 1, by go_num, by omega, HX.out⟩
                case measure => simp [intOf]; omega
              · obtain rfl : t = j := by omega
                have H7 := Aside0.mk h7
                have L7 := Aside0.mk hl7
                clear h3 h7 hl7
                have hs' := HSt.out
                go_upto_region 21 with (fail)
                have HLow := Aside0.mk ((HA.out.2.1 _ (List.getElem_mem hql)).1.2.2.1 _ (List.getElem_mem htl))
                have HM : Aside0 (∀ V1, Below wr.heap.size wr V1 → (V1.cell? ⟨(ad.add (q * 4)).block, (ad.add (q * 4)).off + 3, none⟩ = some (.slice (some ad3) g[q].f2.length c3') ∧ V1.cell? ⟨(ad3.add (t * 8)).block, (ad3.add (t * 8)).off + 1, none⟩ = some (.int .i64 g[q].f2[t].f1.f0) ∧ V1.cell? ⟨(ad3.add (t * 8)).block, (ad3.add (t * 8)).off + 2, none⟩ = some (.bool g[q].f2[t].f1.f1) ∧ V1.cell? ⟨(ad3.add (t * 8)).block, (ad3.add (t * 8)).off + 3, none⟩ = some (.int .i64 g[q].f2[t].f1.f2) ∧ V1.cell? ⟨(ad3.add (t * 8)).block, (ad3.add (t * 8)).off + 4, none⟩ = some (.string g[q].f2[t].f1.f3) ∧ V1.cell? ⟨(ad3.add (t * 8)).block, (ad3.add (t * 8)).off + 5, none⟩ = some (.string g[q].f2[t].f1.f4.f0) ∧ V1.cell? ⟨(ad3.add (t * 8)).block, (ad3.add (t * 8)).off + 6, none⟩ = some (.string g[q].f2[t].f1.f4.f1) ∧ V1.cell? ⟨(ad3.add (t * 8)).block, (ad3.add (t * 8)).off + 7, none⟩ = some (.slice A7 g[q].f2[t].f1.f5.length c7) ∧ k55.C V1 A7 g[q].f2[t].f1.f5.length g[q].f2[t].f1.f5)) := ⟨fun V1 h => ⟨hbc h e3, hbc h x1, hbc h x2, hbc h x3, hbc h x4, hbc h x5, hbc h x6, hbc h x7, Kd.C_below H7.out h⟩⟩
                clear e3 x0 x1 x2 x3 x4 x5 x6 x7 H7 hs'
                replace HM : Aside0 (∀ V1, Below wr.drew.heap.size wr.drew V1 → (V1.cell? ⟨(ad.add (q * 4)).block, (ad.add (q * 4)).off + 3, none⟩ = some (.slice (some ad3) g[q].f2.length c3') ∧ V1.cell? ⟨(ad3.add (t * 8)).block, (ad3.add (t * 8)).off + 1, none⟩ = some (.int .i64 g[q].f2[t].f1.f0) ∧ V1.cell? ⟨(ad3.add (t * 8)).block, (ad3.add (t * 8)).off + 2, none⟩ = some (.bool g[q].f2[t].f1.f1) ∧ V1.cell? ⟨(ad3.add (t * 8)).block, (ad3.add (t * 8)).off + 3, none⟩ = some (.int .i64 g[q].f2[t].f1.f2) ∧ V1.cell? ⟨(ad3.add (t * 8)).block, (ad3.add (t * 8)).off + 4, none⟩ = some (.string g[q].f2[t].f1.f3) ∧ V1.cell? ⟨(ad3.add (t * 8)).block, (ad3.add (t * 8)).off + 5, none⟩ = some (.string g[q].f2[t].f1.f4.f0) ∧ V1.cell? ⟨(ad3.add (t * 8)).block, (ad3.add (t * 8)).off + 6, none⟩ = some (.string g[q].f2[t].f1.f4.f1) ∧ V1.cell? ⟨(ad3.add (t * 8)).block, (ad3.add (t * 8)).off + 7, none⟩ = some (.slice A7 g[q].f2[t].f1.f5.length c7) ∧ k55.C V1 A7 g[q].f2[t].f1.f5.length g[q].f2[t].f1.f5)) := ⟨fun V1 h => HM.out V1 (below_step (below_drew1 (Below.refl _ _)) h)⟩
                replace HX : Aside0 (LF w2 w2.heap.size g3 g5 n5 u true A5 c5 g[q].f2[t].f1 A6 c6 wr.drew) := ⟨HX.out.step (below_drew1 (Below.refl _ _))⟩
                refine start_ (n := 20) (S := fun w' => True) (ds := []) #[false, false, false, false, false, false, false, false, false, false, false, false, false, false, false, false, false, false, false, false] (by kernel_rfl) rfl rfl trivial (fun hHeld => ?_)
                refine with_tabW rw21_tab rw21_bits (fun HT_ HW_ => ?_)
                generalize wr.drew = wd at HM HX hHeld ⊢
                have H3 := Aside0.mk HX.out.hb
                have H5 := Aside0.mk HX.out.vb
                have KB_ := Aside0.mk (Below.refl wd.heap.size wd)
                refine inv_at [0, 1, 2, 3, 4, 5, 6, 7, 8, 9, 10, 11, 12, 13, 14, 15, 16, 17, 18, 19] (fun a0_ b a w' => a = putSel a0_ b [(0, 106, .pointer (some ⟨g3, 1, none⟩)), (1, 107, .bool true), (2, 108, .bool true), (3, 109, .int .i64 0), (4, 110, .bool true), (5, 111, .bool true), (6, 112, .bool true), (7, 113, .agg #[.int .i64 g[q].f2[t].f1.f0, .bool g[q].f2[t].f1.f1, .int .i64 g[q].f2[t].f1.f2, .string g[q].f2[t].f1.f3, .string g[q].f2[t].f1.f4.f0, .string g[q].f2[t].f1.f4.f1, .slice A6 g[q].f2[t].f1.f5.length c6]), (8, 114, .slice (some ad) g.length c), (9, 115, .int .i64 (q : Int)), (10, 116, .pointer (some (ad.add (q * 4)))), (11, 117, .pointer (some ⟨(ad.add (q * 4)).block, (ad.add (q * 4)).off + 3, none⟩)), (12, 118, .slice (some ad3) g[q].f2.length c3'), (13, 119, .int .i64 (t : Int)), (14, 120, .pointer (some (ad3.add (t * 8)))), (15, 121, .pointer (some ⟨(ad3.add (t * 8)).block, (ad3.add (t * 8)).off + 1, none⟩)), (16, 122, .agg #[.int .i64 g[q].f2[t].f1.f0, .bool g[q].f2[t].f1.f1, .int .i64 g[q].f2[t].f1.f2, .string g[q].f2[t].f1.f3, .string g[q].f2[t].f1.f4.f0, .string g[q].f2[t].f1.f4.f1, .slice A7 g[q].f2[t].f1.f5.length c7]), (17, 123, .bool true), (18, 124, .bool true), (19, 8, .bool true)] ∧ (Below wd.heap.size wd w')) HT_.out HW_.out (by kernel_rfl) (by kernel_rfl) ?_ ?_ ?_
                · exact ⟨by simp only [putSel, Bool.false_eq_true, if_false], KB_.out⟩
                · skip
                  clear KB_
                  refine steps_cons ?_ ?_
                  · rintro b a w' ⟨ha, Q_KB_⟩ hb_ hon hoff
                    refine ⟨_, rfl, fun K hK => ?_⟩
                    have e13 : a.tmps[13]? = some (.pointer (some ⟨g3, 0, none⟩)) := by rw [ha]; exact (putSel_off rfl).trans rfl
                    replace ha := Aside0.mk ha
                    have KB_ := Aside0.mk Q_KB_
                    refine value_ (w1 := w') (v := .pointer (some ⟨g3, 1, none⟩)) (by rfl) rfl ?_ ?_
                    · go_simp
                      (try simp only [i64_w])
                      try rfl
                    refine hK.out _ _ ⟨(by rw [ha.out]; exact putSel_upk 0 hb_ rfl rfl rfl), Q_KB_⟩
                  refine steps_cons ?_ ?_
                  · rintro b a w' ⟨ha, Q_KB_⟩ hb_ hon hoff
                    refine ⟨_, rfl, fun K hK => ?_⟩
                    have e106 : a.tmps[106]? = some (.pointer (some ⟨g3, 1, none⟩)) := by rw [ha]; exact putSel_on (e := (0, 106, .pointer (some ⟨g3, 1, none⟩))) 0 rfl rfl (hon 0 (by kernel_rfl)) rfl
                    replace ha := Aside0.mk ha
                    have KB_ := Aside0.mk Q_KB_
                    have c0_ : w'.cell? ⟨g3, 1, none⟩ = some (.bool true) := (blk_cell (blk_below H3.out KB_.out) 1).trans rfl
                    refine value_ (w1 := w') (v := .bool true) (by rfl) rfl ?_ ?_
                    · go_simp
                      (try simp only [i64_w])
                      try rfl
                    refine hK.out _ _ ⟨(by rw [ha.out]; exact putSel_upk 1 hb_ rfl rfl rfl), Q_KB_⟩
                  refine steps_cons ?_ ?_
                  · rintro b a w' ⟨ha, Q_KB_⟩ hb_ hon hoff
                    refine ⟨_, rfl, fun K hK => ?_⟩
                    have e107 : a.tmps[107]? = some (.bool true) := by rw [ha]; exact putSel_on (e := (1, 107, .bool true)) 1 rfl rfl (hon 1 (by kernel_rfl)) rfl
                    replace ha := Aside0.mk ha
                    have KB_ := Aside0.mk Q_KB_
                    refine value_ (w1 := w') (v := .bool true) (by rfl) rfl ?_ ?_
                    · go_simp
                      (try simp only [i64_w])
                      try rfl
                    refine hK.out _ _ ⟨(by rw [ha.out]; exact putSel_upk 2 hb_ rfl rfl rfl), Q_KB_⟩
                  refine steps_cons ?_ ?_
                  · rintro b a w' ⟨ha, Q_KB_⟩ hb_ hon hoff
                    refine ⟨_, rfl, fun K hK => ?_⟩
                    have e16 : a.tmps[16]? = some (.int .i64 0) := by rw [ha]; exact (putSel_off rfl).trans rfl
                    have e108 : a.tmps[108]? = some (.bool true) := by rw [ha]; exact putSel_on (e := (2, 108, .bool true)) 2 rfl rfl (hon 2 (by kernel_rfl)) rfl
                    replace ha := Aside0.mk ha
                    have KB_ := Aside0.mk Q_KB_
                    refine value_ (w1 := w') (v := .int .i64 0) (wanted_on rfl rfl rfl (e108.trans (by first | rfl | (simp [*]; done)))) rfl ?_ ?_
                    · go_simp
                      (try simp only [i64_w])
                      try rfl
                    refine hK.out _ _ ⟨(by rw [ha.out]; exact putSel_upk 3 hb_ rfl rfl rfl), Q_KB_⟩
                  refine steps_cons ?_ ?_
                  · rintro b a w' ⟨ha, Q_KB_⟩ hb_ hon hoff
                    refine ⟨_, rfl, fun K hK => ?_⟩
                    have e109 : a.tmps[109]? = some (.int .i64 0) := by rw [ha]; exact putSel_on (e := (3, 109, .int .i64 0)) 3 rfl rfl (hon 3 (by kernel_rfl)) rfl
                    have e108 : a.tmps[108]? = some (.bool true) := by rw [ha]; exact putSel_on (e := (2, 108, .bool true)) 2 rfl rfl (hon 2 (by kernel_rfl)) rfl
                    replace ha := Aside0.mk ha
                    have KB_ := Aside0.mk Q_KB_
                    refine value_ (w1 := w') (v := .bool true) (wanted_on rfl rfl rfl (e108.trans (by first | rfl | (simp [*]; done)))) rfl ?_ ?_
                    · go_simp
                      (try simp only [i64_w])
                      try rfl
                    refine hK.out _ _ ⟨(by rw [ha.out]; exact putSel_upk 4 hb_ rfl rfl rfl), Q_KB_⟩
                  refine steps_cons ?_ ?_
                  · rintro b a w' ⟨ha, Q_KB_⟩ hb_ hon hoff
                    refine ⟨_, rfl, fun K hK => ?_⟩
                    have e108 : a.tmps[108]? = some (.bool true) := by rw [ha]; exact putSel_on (e := (2, 108, .bool true)) 2 rfl rfl (hon 2 (by kernel_rfl)) rfl
                    have e110 : a.tmps[110]? = some (.bool true) := by rw [ha]; exact putSel_on (e := (4, 110, .bool true)) 4 rfl rfl (hon 4 (by kernel_rfl)) rfl
                    replace ha := Aside0.mk ha
                    have KB_ := Aside0.mk Q_KB_
                    refine value_ (w1 := w') (v := .bool true) (by rfl) rfl ?_ ?_
                    · go_simp
                      (try simp only [i64_w])
                      try rfl
                    refine hK.out _ _ ⟨(by rw [ha.out]; exact putSel_upk 5 hb_ rfl rfl rfl), Q_KB_⟩
                  refine steps_cons ?_ ?_
                  · rintro b a w' ⟨ha, Q_KB_⟩ hb_ hon hoff
                    refine ⟨_, rfl, fun K hK => ?_⟩
                    have e111 : a.tmps[111]? = some (.bool true) := by rw [ha]; exact putSel_on (e := (5, 111, .bool true)) 5 rfl rfl (hon 5 (by kernel_rfl)) rfl
                    replace ha := Aside0.mk ha
                    have KB_ := Aside0.mk Q_KB_
                    refine value_ (w1 := w') (v := .bool true) (by rfl) rfl ?_ ?_
                    · go_simp
                      (try simp only [i64_w])
                      try rfl
                    refine hK.out _ _ ⟨(by rw [ha.out]; exact putSel_upk 6 hb_ rfl rfl rfl), Q_KB_⟩
                  refine steps_cons ?_ ?_
                  · rintro b a w' ⟨ha, Q_KB_⟩ hb_ hon hoff
                    refine ⟨_, rfl, fun K hK => ?_⟩
                    have e15 : a.tmps[15]? = some (.pointer (some ⟨g5, 0, none⟩)) := by rw [ha]; exact (putSel_off rfl).trans rfl
                    have e112 : a.tmps[112]? = some (.bool true) := by rw [ha]; exact putSel_on (e := (6, 112, .bool true)) 6 rfl rfl (hon 6 (by kernel_rfl)) rfl
                    replace ha := Aside0.mk ha
                    have KB_ := Aside0.mk Q_KB_
                    have c0_ : w'.cell? ⟨g5, 0, none⟩ = some (.int .i64 g[q].f2[t].f1.f0) := (blk_cell (blk_below H5.out KB_.out) 0).trans rfl
                    have c1_ : w'.cell? ⟨g5, 1, none⟩ = some (.bool g[q].f2[t].f1.f1) := (blk_cell (blk_below H5.out KB_.out) 1).trans rfl
                    have c2_ : w'.cell? ⟨g5, 2, none⟩ = some (.int .i64 g[q].f2[t].f1.f2) := (blk_cell (blk_below H5.out KB_.out) 2).trans rfl
                    have c3_ : w'.cell? ⟨g5, 3, none⟩ = some (.string g[q].f2[t].f1.f3) := (blk_cell (blk_below H5.out KB_.out) 3).trans rfl
                    have c4_ : w'.cell? ⟨g5, 4, none⟩ = some (.string g[q].f2[t].f1.f4.f0) := (blk_cell (blk_below H5.out KB_.out) 4).trans rfl
                    have c5_ : w'.cell? ⟨g5, 5, none⟩ = some (.string g[q].f2[t].f1.f4.f1) := (blk_cell (blk_below H5.out KB_.out) 5).trans rfl
                    have c6_ : w'.cell? ⟨g5, 6, none⟩ = some (.slice A6 g[q].f2[t].f1.f5.length c6) := (blk_cell (blk_below H5.out KB_.out) 6).trans rfl
                    refine value_ (w1 := w') (v := .agg #[.int .i64 g[q].f2[t].f1.f0, .bool g[q].f2[t].f1.f1, .int .i64 g[q].f2[t].f1.f2, .string g[q].f2[t].f1.f3, .string g[q].f2[t].f1.f4.f0, .string g[q].f2[t].f1.f4.f1, .slice A6 g[q].f2[t].f1.f5.length c6]) (wanted_on rfl rfl rfl (e112.trans (by first | rfl | (simp [*]; done)))) rfl ?_ ?_
                    · go_simp
                      (try simp only [i64_w])
                      try rfl
                    refine hK.out _ _ ⟨(by rw [ha.out]; exact putSel_upk 7 hb_ rfl rfl rfl), Q_KB_⟩
                  refine steps_cons ?_ ?_
                  · rintro b a w' ⟨ha, Q_KB_⟩ hb_ hon hoff
                    refine ⟨_, rfl, fun K hK => ?_⟩
                    have e9 : a.tmps[9]? = some (.slice (some ad) g.length c) := by rw [ha]; exact (putSel_off rfl).trans rfl
                    have e112 : a.tmps[112]? = some (.bool true) := by rw [ha]; exact putSel_on (e := (6, 112, .bool true)) 6 rfl rfl (hon 6 (by kernel_rfl)) rfl
                    replace ha := Aside0.mk ha
                    have KB_ := Aside0.mk Q_KB_
                    refine value_ (w1 := w') (v := .slice (some ad) g.length c) (wanted_on rfl rfl rfl (e112.trans (by first | rfl | (simp [*]; done)))) rfl ?_ ?_
                    · go_simp
                      (try simp only [i64_w])
                      try rfl
                    refine hK.out _ _ ⟨(by rw [ha.out]; exact putSel_upk 8 hb_ rfl rfl rfl), Q_KB_⟩
                  refine steps_cons ?_ ?_
                  · rintro b a w' ⟨ha, Q_KB_⟩ hb_ hon hoff
                    refine ⟨_, rfl, fun K hK => ?_⟩
                    have e17 : a.tmps[17]? = some (.int .i64 (q : Int)) := by rw [ha]; exact (putSel_off rfl).trans rfl
                    have e112 : a.tmps[112]? = some (.bool true) := by rw [ha]; exact putSel_on (e := (6, 112, .bool true)) 6 rfl rfl (hon 6 (by kernel_rfl)) rfl
                    replace ha := Aside0.mk ha
                    have KB_ := Aside0.mk Q_KB_
                    refine value_ (w1 := w') (v := .int .i64 (q : Int)) (wanted_on rfl rfl rfl (e112.trans (by first | rfl | (simp [*]; done)))) rfl ?_ ?_
                    · go_simp
                      (try simp only [i64_w])
                      try rfl
                    refine hK.out _ _ ⟨(by rw [ha.out]; exact putSel_upk 9 hb_ rfl rfl rfl), Q_KB_⟩
                  refine steps_cons ?_ ?_
                  · rintro b a w' ⟨ha, Q_KB_⟩ hb_ hon hoff
                    refine ⟨_, rfl, fun K hK => ?_⟩
                    have e114 : a.tmps[114]? = some (.slice (some ad) g.length c) := by rw [ha]; exact putSel_on (e := (8, 114, .slice (some ad) g.length c)) 8 rfl rfl (hon 8 (by kernel_rfl)) rfl
                    have e115 : a.tmps[115]? = some (.int .i64 (q : Int)) := by rw [ha]; exact putSel_on (e := (9, 115, .int .i64 (q : Int))) 9 rfl rfl (hon 9 (by kernel_rfl)) rfl
                    have e112 : a.tmps[112]? = some (.bool true) := by rw [ha]; exact putSel_on (e := (6, 112, .bool true)) 6 rfl rfl (hon 6 (by kernel_rfl)) rfl
                    replace ha := Aside0.mk ha
                    have KB_ := Aside0.mk Q_KB_
                    refine value_ (w1 := w') (v := .pointer (some (ad.add (q * 4)))) (wanted_on rfl rfl rfl (e112.trans (by first | rfl | (simp [*]; done)))) rfl ?_ ?_
                    · go_simp
                      (try simp only [i64_w])
                      try rfl
                    refine hK.out _ _ ⟨(by rw [ha.out]; exact putSel_upk 10 hb_ rfl rfl rfl), Q_KB_⟩
                  refine steps_cons ?_ ?_
                  · rintro b a w' ⟨ha, Q_KB_⟩ hb_ hon hoff
                    refine ⟨_, rfl, fun K hK => ?_⟩
                    have e116 : a.tmps[116]? = some (.pointer (some (ad.add (q * 4)))) := by rw [ha]; exact putSel_on (e := (10, 116, .pointer (some (ad.add (q * 4))))) 10 rfl rfl (hon 10 (by kernel_rfl)) rfl
                    have e112 : a.tmps[112]? = some (.bool true) := by rw [ha]; exact putSel_on (e := (6, 112, .bool true)) 6 rfl rfl (hon 6 (by kernel_rfl)) rfl
                    replace ha := Aside0.mk ha
                    have KB_ := Aside0.mk Q_KB_
                    refine value_ (w1 := w') (v := .pointer (some ⟨(ad.add (q * 4)).block, (ad.add (q * 4)).off + 3, none⟩)) (wanted_on rfl rfl rfl (e112.trans (by first | rfl | (simp [*]; done)))) rfl ?_ ?_
                    · go_simp
                      (try simp only [i64_w])
                      try rfl
                    refine hK.out _ _ ⟨(by rw [ha.out]; exact putSel_upk 11 hb_ rfl rfl rfl), Q_KB_⟩
                  refine steps_cons ?_ ?_
                  · rintro b a w' ⟨ha, Q_KB_⟩ hb_ hon hoff
                    refine ⟨_, rfl, fun K hK => ?_⟩
                    have e117 : a.tmps[117]? = some (.pointer (some ⟨(ad.add (q * 4)).block, (ad.add (q * 4)).off + 3, none⟩)) := by rw [ha]; exact putSel_on (e := (11, 117, .pointer (some ⟨(ad.add (q * 4)).block, (ad.add (q * 4)).off + 3, none⟩))) 11 rfl rfl (hon 11 (by kernel_rfl)) rfl
                    have e112 : a.tmps[112]? = some (.bool true) := by rw [ha]; exact putSel_on (e := (6, 112, .bool true)) 6 rfl rfl (hon 6 (by kernel_rfl)) rfl
                    replace ha := Aside0.mk ha
                    have KB_ := Aside0.mk Q_KB_
                    obtain ⟨m0, _⟩ := HM.out _ KB_.out
                    refine value_ (w1 := w') (v := .slice (some ad3) g[q].f2.length c3') (wanted_on rfl rfl rfl (e112.trans (by first | rfl | (simp [*]; done)))) rfl ?_ ?_
                    · go_simp
                      (try simp only [i64_w])
                      try rfl
                    refine hK.out _ _ ⟨(by rw [ha.out]; exact putSel_upk 12 hb_ rfl rfl rfl), Q_KB_⟩
                  refine steps_cons ?_ ?_
                  · rintro b a w' ⟨ha, Q_KB_⟩ hb_ hon hoff
                    refine ⟨_, rfl, fun K hK => ?_⟩
                    have e18 : a.tmps[18]? = some (.int .i64 (t : Int)) := by rw [ha]; exact (putSel_off rfl).trans rfl
                    have e112 : a.tmps[112]? = some (.bool true) := by rw [ha]; exact putSel_on (e := (6, 112, .bool true)) 6 rfl rfl (hon 6 (by kernel_rfl)) rfl
                    replace ha := Aside0.mk ha
                    have KB_ := Aside0.mk Q_KB_
                    refine value_ (w1 := w') (v := .int .i64 (t : Int)) (wanted_on rfl rfl rfl (e112.trans (by first | rfl | (simp [*]; done)))) rfl ?_ ?_
                    · go_simp
                      (try simp only [i64_w])
                      try rfl
                    refine hK.out _ _ ⟨(by rw [ha.out]; exact putSel_upk 13 hb_ rfl rfl rfl), Q_KB_⟩
                  refine steps_cons ?_ ?_
                  · rintro b a w' ⟨ha, Q_KB_⟩ hb_ hon hoff
                    refine ⟨_, rfl, fun K hK => ?_⟩
                    have e118 : a.tmps[118]? = some (.slice (some ad3) g[q].f2.length c3') := by rw [ha]; exact putSel_on (e := (12, 118, .slice (some ad3) g[q].f2.length c3')) 12 rfl rfl (hon 12 (by kernel_rfl)) rfl
                    have e119 : a.tmps[119]? = some (.int .i64 (t : Int)) := by rw [ha]; exact putSel_on (e := (13, 119, .int .i64 (t : Int))) 13 rfl rfl (hon 13 (by kernel_rfl)) rfl
                    have e112 : a.tmps[112]? = some (.bool true) := by rw [ha]; exact putSel_on (e := (6, 112, .bool true)) 6 rfl rfl (hon 6 (by kernel_rfl)) rfl
                    replace ha := Aside0.mk ha
                    have KB_ := Aside0.mk Q_KB_
                    refine value_ (w1 := w') (v := .pointer (some (ad3.add (t * 8)))) (wanted_on rfl rfl rfl (e112.trans (by first | rfl | (simp [*]; done)))) rfl ?_ ?_
                    · go_simp
                      (try simp only [i64_w])
                      try rfl
                    refine hK.out _ _ ⟨(by rw [ha.out]; exact putSel_upk 14 hb_ rfl rfl rfl), Q_KB_⟩
                  refine steps_cons ?_ ?_
                  · rintro b a w' ⟨ha, Q_KB_⟩ hb_ hon hoff
                    refine ⟨_, rfl, fun K hK => ?_⟩
                    have e120 : a.tmps[120]? = some (.pointer (some (ad3.add (t * 8)))) := by rw [ha]; exact putSel_on (e := (14, 120, .pointer (some (ad3.add (t * 8))))) 14 rfl rfl (hon 14 (by kernel_rfl)) rfl
                    have e112 : a.tmps[112]? = some (.bool true) := by rw [ha]; exact putSel_on (e := (6, 112, .bool true)) 6 rfl rfl (hon 6 (by kernel_rfl)) rfl
                    replace ha := Aside0.mk ha
                    have KB_ := Aside0.mk Q_KB_
                    refine value_ (w1 := w') (v := .pointer (some ⟨(ad3.add (t * 8)).block, (ad3.add (t * 8)).off + 1, none⟩)) (wanted_on rfl rfl rfl (e112.trans (by first | rfl | (simp [*]; done)))) rfl ?_ ?_
                    · go_simp
                      (try simp only [i64_w])
                      try rfl
                    refine hK.out _ _ ⟨(by rw [ha.out]; exact putSel_upk 15 hb_ rfl rfl rfl), Q_KB_⟩
                  refine steps_cons ?_ ?_
                  · rintro b a w' ⟨ha, Q_KB_⟩ hb_ hon hoff
                    refine ⟨_, rfl, fun K hK => ?_⟩
                    have e121 : a.tmps[121]? = some (.pointer (some ⟨(ad3.add (t * 8)).block, (ad3.add (t * 8)).off + 1, none⟩)) := by rw [ha]; exact putSel_on (e := (15, 121, .pointer (some ⟨(ad3.add (t * 8)).block, (ad3.add (t * 8)).off + 1, none⟩))) 15 rfl rfl (hon 15 (by kernel_rfl)) rfl
                    have e112 : a.tmps[112]? = some (.bool true) := by rw [ha]; exact putSel_on (e := (6, 112, .bool true)) 6 rfl rfl (hon 6 (by kernel_rfl)) rfl
                    replace ha := Aside0.mk ha
                    have KB_ := Aside0.mk Q_KB_
                    obtain ⟨_, m1, m2, m3, m4, m5, m6, m7, _⟩ := HM.out _ KB_.out
                    refine value_ (w1 := w') (v := .agg #[.int .i64 g[q].f2[t].f1.f0, .bool g[q].f2[t].f1.f1, .int .i64 g[q].f2[t].f1.f2, .string g[q].f2[t].f1.f3, .string g[q].f2[t].f1.f4.f0, .string g[q].f2[t].f1.f4.f1, .slice A7 g[q].f2[t].f1.f5.length c7]) (wanted_on rfl rfl rfl (e112.trans (by first | rfl | (simp [*]; done)))) rfl ?_ ?_
                    · go_simp
                      (try simp only [i64_w])
                      try rfl
                    refine hK.out _ _ ⟨(by rw [ha.out]; exact putSel_upk 16 hb_ rfl rfl rfl), Q_KB_⟩
                  refine steps_cons ?_ ?_
                  · rintro b a w' ⟨ha, Q_KB_⟩ hb_ hon hoff
                    refine ⟨_, rfl, fun K hK => ?_⟩
                    have e113 : a.tmps[113]? = some (.agg #[.int .i64 g[q].f2[t].f1.f0, .bool g[q].f2[t].f1.f1, .int .i64 g[q].f2[t].f1.f2, .string g[q].f2[t].f1.f3, .string g[q].f2[t].f1.f4.f0, .string g[q].f2[t].f1.f4.f1, .slice A6 g[q].f2[t].f1.f5.length c6]) := by rw [ha]; exact putSel_on (e := (7, 113, .agg #[.int .i64 g[q].f2[t].f1.f0, .bool g[q].f2[t].f1.f1, .int .i64 g[q].f2[t].f1.f2, .string g[q].f2[t].f1.f3, .string g[q].f2[t].f1.f4.f0, .string g[q].f2[t].f1.f4.f1, .slice A6 g[q].f2[t].f1.f5.length c6])) 7 rfl rfl (hon 7 (by kernel_rfl)) rfl
                    have e122 : a.tmps[122]? = some (.agg #[.int .i64 g[q].f2[t].f1.f0, .bool g[q].f2[t].f1.f1, .int .i64 g[q].f2[t].f1.f2, .string g[q].f2[t].f1.f3, .string g[q].f2[t].f1.f4.f0, .string g[q].f2[t].f1.f4.f1, .slice A7 g[q].f2[t].f1.f5.length c7]) := by rw [ha]; exact putSel_on (e := (16, 122, .agg #[.int .i64 g[q].f2[t].f1.f0, .bool g[q].f2[t].f1.f1, .int .i64 g[q].f2[t].f1.f2, .string g[q].f2[t].f1.f3, .string g[q].f2[t].f1.f4.f0, .string g[q].f2[t].f1.f4.f1, .slice A7 g[q].f2[t].f1.f5.length c7])) 16 rfl rfl (hon 16 (by kernel_rfl)) rfl
                    have e112 : a.tmps[112]? = some (.bool true) := by rw [ha]; exact putSel_on (e := (6, 112, .bool true)) 6 rfl rfl (hon 6 (by kernel_rfl)) rfl
                    replace ha := Aside0.mk ha
                    have KB_ := Aside0.mk Q_KB_
                    refine goes_ Try.func31 (by kernel_rfl) rfl #[.agg #[.int .i64 g[q].f2[t].f1.f0, .bool g[q].f2[t].f1.f1, .int .i64 g[q].f2[t].f1.f2, .string g[q].f2[t].f1.f3, .string g[q].f2[t].f1.f4.f0, .string g[q].f2[t].f1.f4.f1, .slice A6 g[q].f2[t].f1.f5.length c6], .agg #[.int .i64 g[q].f2[t].f1.f0, .bool g[q].f2[t].f1.f1, .int .i64 g[q].f2[t].f1.f2, .string g[q].f2[t].f1.f3, .string g[q].f2[t].f1.f4.f0, .string g[q].f2[t].f1.f4.f1, .slice A7 g[q].f2[t].f1.f5.length c7]] (wanted_on rfl rfl rfl (e112.trans (by first | rfl | (simp [*]; done)))) rfl rfl (by first | (simp only [List.map_toArray, List.map_cons, List.map_nil, Act.eval, Array.getD_eq_getD_getElem?, Option.getD_some, e113, e122, e112]; done) | (simp only [List.map_toArray, List.map_cons, List.map_nil, Act.eval, Array.getD_eq_getD_getElem?, Option.getD_some, e113, e122, e112]; rfl)) ?_
                    refine (GP.same_self_calls g[q].f2[t].f1 HLow.out A6 A7 c6 c7 _ (Kd.V_reads' (Kd.V_below HX.out.vv KB_.out)).2.2 (Kd.V_reads' HX.out.vv).2.1 (HM.out _ KB_.out).2.2.2.2.2.2.2.2 L7.out).mono ?_
                    rintro e w2 ⟨rfl, hb⟩
                    refine ⟨_, rfl, ?_⟩
                    refine hK.out _ _ ⟨(by rw [ha.out]; exact putSel_upk 17 hb_ rfl rfl rfl), below_step KB_.out hb⟩
                  refine steps_cons ?_ ?_
                  · rintro b a w' ⟨ha, Q_KB_⟩ hb_ hon hoff
                    refine ⟨_, rfl, fun K hK => ?_⟩
                    have e112 : a.tmps[112]? = some (.bool true) := by rw [ha]; exact putSel_on (e := (6, 112, .bool true)) 6 rfl rfl (hon 6 (by kernel_rfl)) rfl
                    have e123 : a.tmps[123]? = some (.bool true) := by rw [ha]; exact putSel_on (e := (17, 123, .bool true)) 17 rfl rfl (hon 17 (by kernel_rfl)) rfl
                    replace ha := Aside0.mk ha
                    have KB_ := Aside0.mk Q_KB_
                    refine value_ (w1 := w') (v := .bool true) (by rfl) rfl ?_ ?_
                    · go_simp
                      (try simp only [i64_w])
                      try rfl
                    refine hK.out _ _ ⟨(by rw [ha.out]; exact putSel_upk 18 hb_ rfl rfl rfl), Q_KB_⟩
                  refine steps_cons ?_ ?_
                  · rintro b a w' ⟨ha, Q_KB_⟩ hb_ hon hoff
                    refine ⟨_, rfl, fun K hK => ?_⟩
                    have e124 : a.tmps[124]? = some (.bool true) := by rw [ha]; exact putSel_on (e := (18, 124, .bool true)) 18 rfl rfl (hon 18 (by kernel_rfl)) rfl
                    replace ha := Aside0.mk ha
                    have KB_ := Aside0.mk Q_KB_
                    refine value_ (w1 := w') (v := .bool true) (by rfl) rfl ?_ ?_
                    · go_simp
                      (try simp only [i64_w])
                      try rfl
                    refine hK.out _ _ ⟨(by rw [ha.out]; exact putSel_upk 19 hb_ rfl rfl rfl), Q_KB_⟩
                  exact steps_nil
                rintro b a w' hall ⟨ha, Q_KB_⟩
                clear KB_
                have hb0_ := hall 0 (by kernel_rfl)
                have hb1_ := hall 1 (by kernel_rfl)
                have hb2_ := hall 2 (by kernel_rfl)
                have hb3_ := hall 3 (by kernel_rfl)
                have hb4_ := hall 4 (by kernel_rfl)
                have hb5_ := hall 5 (by kernel_rfl)
                have hb6_ := hall 6 (by kernel_rfl)
                have hb7_ := hall 7 (by kernel_rfl)
                have hb8_ := hall 8 (by kernel_rfl)
                have hb9_ := hall 9 (by kernel_rfl)
                have hb10_ := hall 10 (by kernel_rfl)
                have hb11_ := hall 11 (by kernel_rfl)
                have hb12_ := hall 12 (by kernel_rfl)
                have hb13_ := hall 13 (by kernel_rfl)
                have hb14_ := hall 14 (by kernel_rfl)
                have hb15_ := hall 15 (by kernel_rfl)
                have hb16_ := hall 16 (by kernel_rfl)
                have hb17_ := hall 17 (by kernel_rfl)
                have hb18_ := hall 18 (by kernel_rfl)
                have hb19_ := hall 19 (by kernel_rfl)
                subst ha
                simp only [putSel, hb0_, hb1_, hb2_, hb3_, hb4_, hb5_, hb6_, hb7_, hb8_, hb9_, hb10_, hb11_, hb12_, hb13_, hb14_, hb15_, hb16_, hb17_, hb18_, hb19_, if_true, Act.put, List.setIfInBounds_toArray, List.set_cons_zero, List.set_cons_succ]
                have KB_ := Aside0.mk Q_KB_
                clear Q_KB_
                clear hall hb0_ hb1_ hb2_ hb3_ hb4_ hb5_ hb6_ hb7_ hb8_ hb9_ hb10_ hb11_ hb12_ hb13_ hb14_ hb15_ hb16_ hb17_ hb18_ hb19_
                go_wp2
                go_ret
                exact ⟨rfl, below_step HB2'.out (below_step HX.out.be KB_.out)⟩
end Go.Proofs.Ytelibndkkokadaa.EV
namespace Go.Proofs.Ytelibndkkokadaa.EV
open Go.RowKit Go.Proofs.YtelibndkkokadaaW.PrintWords Go.Proofs.YtelibndkkokadaaW.PrintLast Go.Proofs.Ytelibndkkokadaa.HandV Go.Proofs.YtelibndkkokadaaW.PrintMore
open Go.Proofs.Ytelibndkkokadaa.GB
attribute [local go_sem] max2_int min2_int max_two min_two max_three min_three max_four min_four   -- for this text's walks alone
set_option linter.unusedVariables false
set_option linter.unusedSimpArgs false
-- IMPORT .EV13
theorem has_law (A0 : Option Addr) (c0 : Nat) (l0 : List S49) (n nm : Int) (th : Bool) (w : World) (hC : k49.C w A0 l0.length l0) (hc : l0.length ≤ c0) : Calls Try.prog 11 #[.slice A0 l0.length c0, .int .i64 n, .int .i64 nm, .bool th] w fun e w' => e = .returned (.bool true) ∧ Below w.heap.size w w' := has_calls l0 A0 c0 n nm th w hC hc
end Go.Proofs.Ytelibndkkokadaa.EV
