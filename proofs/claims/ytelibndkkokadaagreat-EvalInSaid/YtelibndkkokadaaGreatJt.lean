import Derived.Test.YtelibndkkokadaaGreatGB0
import Derived.Test.YtelibndkkokadaaGreatJq
import Derived.Test.YtelibndkkokadaaGreatJv
import Derived.Test.YtelibndkkokadaaGreatSqz
import Derived.Test.YtelibndkkokadaaGreatJa
namespace Go.Proofs.YtelibndkkokadaaGreat.EV
open Go.RowKit Go.Proofs.YtelibndkkokadaaGreatW.PrintWords Go.Proofs.YtelibndkkokadaaGreatW.PrintLast Go.Proofs.YtelibndkkokadaaGreat.HandV Go.Proofs.YtelibndkkokadaaGreatW.PrintMore
open Go.Proofs.YtelibndkkokadaaGreat.GB
attribute [local go_sem] max2_int min2_int max_two min_two max_three min_three max_four min_four   -- for this text's walks alone
set_option linter.unusedVariables false
set_option linter.unusedSimpArgs false
-- IMPORT .EI2
-- IMPORT .Vc
-- IMPORT .Sqz
open GB (value_Set.f value_Set.calls_)
abbrev Xp := S36
theorem rdE {ys : List Xp} {j : Nat} (h : j < ys.length) : rd_T36 ys (j : Int) = ys[j] := by
  unfold rd_T36
  rw [Int.toNat_natCast, List.getD_eq_getElem?_getD, List.getElem?_eq_getElem h]; rfl
/-- A tree of a row in memory. -/
theorem atE {W : World} {A : Option Addr} {ys : List Xp} (h : k36.C W A ys.length ys) {j : Nat} (hj : j < ys.length) : ∃ (ad : Addr) (A6 : Option Addr) (c6 : Nat), A = some ad ∧ W.cell? (ad.add (j * 7)) = some (.int .i64 ys[j].f0) ∧ W.cell? ⟨(ad.add (j * 7)).block, (ad.add (j * 7)).off + 1, none⟩ = some (.bool ys[j].f1) ∧ W.cell? ⟨(ad.add (j * 7)).block, (ad.add (j * 7)).off + 2, none⟩ = some (.int .i64 ys[j].f2) ∧ W.cell? ⟨(ad.add (j * 7)).block, (ad.add (j * 7)).off + 3, none⟩ = some (.string ys[j].f3) ∧ W.cell? ⟨(ad.add (j * 7)).block, (ad.add (j * 7)).off + 4, none⟩ = some (.string ys[j].f4.f0) ∧ W.cell? ⟨(ad.add (j * 7)).block, (ad.add (j * 7)).off + 5, none⟩ = some (.string ys[j].f4.f1) ∧ W.cell? ⟨(ad.add (j * 7)).block, (ad.add (j * 7)).off + 6, none⟩ = some (.slice A6 ys[j].f5.length c6) := by
  obtain ⟨ad, A6, c6, e, g0, g1, g2, g3, g4, g5, g6, l6, h6⟩ := at_T36 h (j : Int) (by omega) (by omega)
  rw [rdE hj] at g0 g1 g2 g3 g4 g5 g6 l6 h6
  rw [Int.toNat_natCast] at g0 g1 g2 g3 g4 g5 g6
  exact ⟨ad, A6, c6, e, g0, g1, g2, g3, g4, g5, g6⟩
theorem heap_after7 {w : World} {b g : Nat} (c0 c1 c2 c3 c4 c5 c6 : Value) (hne : g ≠ b) : (((((((w.setCell ⟨b, 0, none⟩ c0).setCell ⟨b, 1, none⟩ c1).setCell ⟨b, 2, none⟩ c2).setCell ⟨b, 3, none⟩ c3).setCell ⟨b, 4, none⟩ c4).setCell ⟨b, 5, none⟩ c5).setCell ⟨b, 6, none⟩ c6).heap[g]? = w.heap[g]? := by
  iterate 7 rw [Below.heap_setCell _ _ _ g hne]
set_option maxRecDepth 100000 in
set_option maxHeartbeats 16000000 in
/-- (world).set of trees that come to values. -/
theorem set_walk (A : Option Addr) (n c : Nat) (p0 p1 p2 p3 p4 p5 : ByteArray) (ks : List Xp) (vs : List Vl) (hvl : vs.length = ks.length) (hn : ks.length ≤ 1000) (w : World) (hk : ∀ (k : Nat) (x : Xp) (v : Vl), ks[k]? = some x → vs[k]? = some v → ∀ (Ax : Option Addr) (cx : Nat), SaysG (.agg #[.slice A n c, .string p0, .string p1, .string p2, .string p3, .string p4, .string p5]) (.agg #[Value.int .i64 x.f0, Value.bool x.f1, Value.int .i64 x.f2, Value.string x.f3, Value.string x.f4.f0, Value.string x.f4.f1, Value.slice Ax x.f5.length cx]) v 0 w)
    (r : Vl) (rc : Int) (hend : value_Set.f vs = some (r.f0, r.f1, r.f2, r.f3, r.f4.f0, r.f4.f1, r.f5, rc)) (B : Option Addr) (kc : Nat) (hC : k36.C w B ks.length ks) :
    Calls Tryz.prog 32 #[.agg #[.slice A n c, .string p0, .string p1, .string p2, .string p3, .string p4, .string p5], .slice B ks.length kc] w (Gv w r rc) := by
  have HK := Aside0.mk hk
  have HEND := Aside0.mk hend
  have HCC := Aside0.mk hC
  clear hk hend hC
  go_enter Tryz.func32, Tryz.ntmps32
  go_wp2
  go_loopw [6, 13] (fun u v wr => ∃ k : Nat, v = .int .i64 (k : Int) ∧ k ≤ ks.length ∧ Aside0 (Kd.N k39 39 wr w.heap.size (fun k_ => w.heap.size + 2 ≤ k_) u (vs.take k)) ∧ Aside0 (wr.heap[w.heap.size]? = some (.cells #[Value.slice A n c, Value.string p0, Value.string p1, Value.string p2, Value.string p3, Value.string p4, Value.string p5] 70 (0, 0))) ∧ Aside0 (wr.heap[w.heap.size + 1]? = some zO) ∧ Aside0 (Below w.heap.size w wr)) (fun _ v _ => match v with | .int _ x => ks.length - x.toNat | _ => 0)
  case atStart => exact ⟨0, rfl, Nat.zero_le _, ⟨Kd.N_nil _ _ _ _ _⟩, ⟨blk_alloc (blk_new _ _) _⟩, ⟨bn2 _ _ _⟩, ⟨below_alloc (below_alloc (Below.refl _ _) _) _⟩⟩
  case round =>
    obtain ⟨k, rfl, hk, HN, HW, HX, HB⟩ := hrel
    obtain ⟨g0, g1, g2, g3, g4, g5, g6⟩ := cells7 HW.out
    have hgs := blk_lt HW.out
    have hgn : ¬ w.heap.size = wr.heap.size := Nat.ne_of_lt hgs
    have hwle := HB.out.size
    by_cases hlt : k < ks.length
    · have hlt0 : decide ((k : Int) < (ks.length : Int)) = true := decide_eq_true (by omega)
      have p0_ : (0 ≤ (k : Int)) = True := eq_true (by omega)
      have p1_ : ((k : Int) < (ks.length : Int)) = True := eq_true (by omega)
      obtain ⟨ad, Ax, cx, rfl, z0, z1, z2, z3, z4, z5, z6⟩ := atE (Kd.C_below HCC.out HB.out) hlt
      have hab : (ad.add (k * 7)).block < wr.heap.size := World.block_lt_of_cell? _ _ z0
      have han : ¬ (ad.add (k * 7)).block = wr.heap.size := Nat.ne_of_lt hab
      have hx : ks[k]? = some ks[k] := List.getElem?_eq_getElem hlt
      generalize ks[k] = x at hx z0 z1 z2 z3 z4 z5 z6
      obtain ⟨v, hv⟩ : ∃ v, vs[k]? = some v := ⟨_, List.getElem?_eq_getElem (by omega)⟩
      have HE := Aside0.mk (HK.out k x v hx hv Ax cx)
      have HTK : Aside0 (vs.take (k + 1) = vs.take k ++ [v]) := ⟨by rw [List.take_add_one, hv]; rfl⟩
      have htl : (vs.take k).length ≤ 1000 := by rw [List.length_take]; omega
      clear hx hv
      generalize vs.take k = acc at HN HTK htl
      go_wp2_with (first | (go_at_call 18; refine (HE.out _ (below_alloc HB.out _)).mono ?_; rintro e w1 ⟨v6, rfl, hV, hb⟩; obtain ⟨A6, c6, rfl⟩ := Kd.V_slice hV; have HS0 : Aside0 (wr.heap.size + 1 ≤ w1.heap.size) := ⟨by have := hb.size; simpa using this⟩; have HV := Aside0.mk (Kd.V_mono hV (ok' := fun k_ => wr.heap.size + 1 ≤ k_) (fun k_ hk => by simpa using hk)); have HB1 : Aside0 (Below w.heap.size w w1) := ⟨below_step (below_alloc HB.out _) hb⟩; have HN1 := Aside0.mk (Kd.N_below (Kd.N_alloc HN.out (Obj.cells #[Value.int .i64 x.f0, Value.bool x.f1, Value.int .i64 x.f2, Value.string x.f3, Value.string x.f4.f0, Value.string x.f4.f1, Value.slice Ax x.f5.length cx] 36)) hb); have HW1 : Aside0 (w1.heap[w.heap.size]? = some (.cells #[Value.slice A n c, Value.string p0, Value.string p1, Value.string p2, Value.string p3, Value.string p4, Value.string p5] 70 (0, 0))) := ⟨blk_below (blk_alloc HW.out _) hb⟩; have HX1 : Aside0 (w1.heap[w.heap.size + 1]? = some zO) := ⟨blk_below (blk_alloc HX.out _) hb⟩; have HSX := Aside0.mk (blk_lt HX1.out); obtain ⟨q0, q1, q2, q3, q4, q5, q6⟩ := cells7 HX1.out; have hsx := blk_lt HX1.out; clear hV hb) | ((with_reducible refine gate_builtin (b := .append) (xs := #[.tmp 27, .tmp 29]) rfl ?_); at_builtin; refine Kd.N_append k39 (w0 := w) w.heap.size rfl (.tmp 27) (.tmp 29) 37 39 (.agg #[.int .i64 0, .bool false, .int .i64 0, .string ⟨#[]⟩, .string ⟨#[]⟩, .string ⟨#[]⟩, .slice none 0 0]) 96 rfl Tryz.underlying37 info39 rfl (by decide) (by omega) u6 acc v [.int .i64 v.f0, .bool v.f1, .int .i64 v.f2, .string v.f3, .string v.f4.f0, .string v.f4.f1, .slice A6 v.f5.length c6] (fun k_ => w.heap.size + 2 ≤ k_) (fun k_ => wr.heap.size + 1 ≤ k_) rfl ?aX ?aP ?aK (fun k_ hk_ => by have := HB1.out.size; have := HSX.out; simp at hk_; omega) ?aO ?aB ?aS ?aL ?_; (case aX => first | rfl | (show Value.slice (some ⟨w1.heap.size + 1, 0, none⟩) 1 1 = _; simp)); (case aP => obtain ⟨_, hl6, hF⟩ := Kd.V_at HV.out; exact Kd.FK_below (k39_mkF w1 _ v hl6 hF) (below_alloc (Below.refl _ _) _)); (case aK => exact (fun k_ hk_ => ⟨by have := HB.out.size; omega, fun he => by have := Kd.N_lt HN.out k_ he.symm; omega⟩)); (case aO => exact Kd.N_alloc HN1.out _); (case aB => exact below_alloc HB1.out _); (case aS => have := HB1.out.size; simp; omega); (case aL => omega); intro v1 w2 ho hb hg hat; have HN2 := Aside0.mk ho; have HB2 := Aside0.mk hb; have HG2 := Aside0.mk hg; clear ho hb hg hat))
      go_roundw
      case rel => exact ⟨k + 1, by first | rfl | (simp; done) | (simp; omega), by omega, ⟨by rw [HTK.out]; exact HN2.out⟩, ⟨(HG2.out.block _ (by have := blk_lt HW1.out; simp; omega) (fun he => by have := HN.out.1 _ he.symm; omega)).trans ((Below.heap_alloc _ _ _ (blk_lt HW1.out)).trans HW1.out)⟩, ⟨(HG2.out.block _ (by have := HSX.out; simp; omega) (fun he => by have := HN.out.1 _ he.symm; omega)).trans ((Below.heap_alloc _ _ _ HSX.out).trans HX1.out)⟩, HB2⟩
      case measure => simp; omega
    · have hlt0 : decide ((k : Int) < (ks.length : Int)) = false := decide_eq_false (by omega)
      obtain rfl : k = ks.length := by omega
      have hn := HN.out
      rw [show vs.take ks.length = vs from List.take_of_length_le (by omega)] at hn
      obtain ⟨A0, c0, rfl⟩ := Kd.N_slice hn
      have HVV := Aside0.mk (Kd.N_V (base' := wr.heap.size) hn)
      have HCS := Aside0.mk (value_Set.calls_ (fun k_ => w.heap.size + 2 ≤ k_) A0 c0 vs r.f0 r.f1 r.f2 r.f3 r.f4.f0 r.f4.f1 r.f5 rc wr HVV.out HEND.out)
      clear hn HVV hvl
      have hlX := Aside0.mk (blk_lt HX.out)
      go_wp2_with (go_at_call 43; (with_reducible refine HCS.out.mono ?_); rintro e w1 ⟨v6, rfl, hV, hb⟩; obtain ⟨A6, c6, rfl⟩ := Kd.N_slice hV; have HV := Aside0.mk (Kd.V_mono (Kd.N_V (base' := w.heap.size) hV) (ok' := fun k_ => w.heap.size + 2 ≤ k_) (fun k_ hk => by have := hlX.out; rcases hk with h | h <;> omega)); have HB1 : Aside0 (Below w.heap.size w w1) := ⟨below_step HB.out hb⟩; have HX1 : Aside0 (w1.heap[w.heap.size + 1]? = some zO) := ⟨blk_below HX.out hb⟩; clear g0 g1 g2 g3 g4 g5 g6; obtain ⟨q0, q1, q2, q3, q4, q5, q6⟩ := cells7 HX1.out; obtain ⟨f0, f1, f2, f3, f4, f5, f6⟩ := froz7 HX1.out; clear hV hb)
      (try simp only [Exit.inBlock, Exit.then])
      refine bodyPost_ret (results_row_tmp rfl _ _ (w.heap.size + 1) 39 _ (0, 0) _ rfl (set7_blk HX1.out _ _ _ _ _ _ _) Tryz.underlying39 rfl (by kernel_rfl)) rfl ?_
      exact ⟨_, rfl, Kd.V_mono (Kd.V_step HV.out (fun k_ hk _ => heap_after7 _ _ _ _ _ _ _ (by omega))) (fun k_ hk => by omega), set7_below HB1.out (by omega) _ _ _ _ _ _ _⟩
end Go.Proofs.YtelibndkkokadaaGreat.EV
namespace Go.Proofs.YtelibndkkokadaaGreat.EV
open Go.RowKit Go.Proofs.YtelibndkkokadaaGreatW.PrintWords Go.Proofs.YtelibndkkokadaaGreatW.PrintLast Go.Proofs.YtelibndkkokadaaGreat.HandV Go.Proofs.YtelibndkkokadaaGreatW.PrintMore
open Go.Proofs.YtelibndkkokadaaGreat.GB
attribute [local go_sem] max2_int min2_int max_two min_two max_three min_three max_four min_four   -- for this text's walks alone
set_option linter.unusedVariables false
set_option linter.unusedSimpArgs false
-- IMPORT .EI3
-- IMPORT .A5
-- IMPORT .Sqz
open GA (En U okL okU inF in_calls0)
open GB (cmpV cmpU cmpS orI insV setV placeV goodN)
theorem Gv.ofF {W w' : World} {r : Fl} {er : Int} {e : Ending} (h : GivF W r er e w') : Gv W ⟨r.k, r.b, r.m, r.s, ⟨r.t, r.i⟩, []⟩ er e w' := ⟨_, h.1, Kd.V_nil _ _ _ _ _, h.2⟩
abbrev uidV (u : U) : Vl := ⟨4, false, 0, ⟨#[]⟩, u, []⟩
abbrev uidX (u : U) : Xp := ⟨4, false, 0, ⟨#[]⟩, u, []⟩
theorem cmpS_zero {s t : ByteArray} (h : cmpS s t = 0) : s = t := by
  unfold cmpS at h
  split at h
  · cases h
  · split at h
    · rename_i h2; exact ByteArray.ext (Array.toList_inj.1 (by rw [← ByteArray.toList_eq, ← ByteArray.toList_eq]; exact h2))
    · cases h
theorem cmpV_uid {u v : U} (h : cmpV (uidV u) (uidV v) = 0) : u = v := by
  have h1 : cmpV (uidV u) (uidV v) = cmpU u.f0 u.f1 v.f0 v.f1 := by simp [cmpV]
  rw [h1] at h
  unfold cmpU orI at h
  have h2 : cmpS u.f0 v.f0 = 0 ∧ cmpS u.f1 v.f1 = 0 := by
    split at h <;> first | exact ⟨by assumption, h⟩ | (exfalso; simp_all; done) | (constructor <;> simp_all; done)
  have e0 := cmpS_zero h2.1
  have e1 := cmpS_zero h2.2
  cases u; cases v; simp_all
theorem ins_uid (vs : List U) (y : U) : ∃ us : List U, insV (vs.map uidV) (uidV y) = us.map uidV ∧ (∀ F : U → Bool, us.any F = (vs.any F || F y)) ∧ us.length ≤ vs.length + 1 := by
  have hput : ∀ p : Nat, ∃ us : List U, (vs.map uidV).take p ++ [uidV y] ++ (vs.map uidV).drop p = us.map uidV ∧ (∀ F : U → Bool, us.any F = (vs.any F || F y)) ∧ us.length ≤ vs.length + 1 := by
    intro p
    refine ⟨vs.take p ++ [y] ++ vs.drop p, by simp [List.map_take, List.map_drop], ?_, by simp; omega⟩
    intro F
    have h : vs.any F = ((vs.take p).any F || (vs.drop p).any F) := by rw [← List.any_append, List.take_append_drop]
    rw [h]
    simp only [List.any_append, List.any_cons, List.any_nil, Bool.or_false]
    cases (vs.take p).any F <;> cases (vs.drop p).any F <;> cases F y <;> rfl
  unfold insV
  generalize placeV (vs.map uidV) (uidV y) = p
  cases h : (vs.map uidV)[p]? with
  | none => exact hput p
  | some x =>
    rw [List.getElem?_map] at h
    obtain ⟨u, hu, rfl⟩ := Option.map_eq_some_iff.1 h
    by_cases hc : cmpV (uidV u) (uidV y) = 0
    · have huy := cmpV_uid hc
      subst huy
      refine ⟨vs, by simp [hc], ?_, by omega⟩
      intro F
      have hm : u ∈ vs := List.mem_of_getElem? hu
      cases hF : F u with
      | false => simp
      | true => simp only [Bool.or_true]; exact List.any_eq_true.2 ⟨u, hm, hF⟩
    · have hb : (cmpV (uidV u) (uidV y) == 0) = false := beq_eq_false_iff_ne.2 hc
      obtain ⟨us, h1, h2⟩ := hput p
      exact ⟨us, by simpa [hb] using h1, h2⟩
theorem fold_uid : ∀ (l vs : List U), ∃ us : List U, (l.map uidV).foldl insV (vs.map uidV) = us.map uidV ∧ (∀ F : U → Bool, us.any F = (vs.any F || l.any F)) ∧ us.length ≤ vs.length + l.length
  | [], vs => ⟨vs, rfl, by simp, by simp⟩
  | y :: l, vs => by
    obtain ⟨u1, h1, h2, h3⟩ := ins_uid vs y
    obtain ⟨us, h4, h5, h6⟩ := fold_uid l u1
    refine ⟨us, by rw [List.map_cons, List.foldl_cons, h1, h4], ?_, by simp; omega⟩
    intro F
    rw [h5, h2, List.any_cons, Bool.or_assoc]
theorem take_all {α : Type} (p : α → Bool) : ∀ l : List α, (∀ x ∈ l, p x = true) → l.takeWhile p = l
  | [], _ => rfl
  | x :: l, h => by rw [List.takeWhile_cons, h x (by simp), if_pos rfl, take_all p l (fun y hy => h y (by simp [hy]))]
/-- The set of uids: the same uids. -/
theorem set_uids (ws : List U) (h0 : 0 < ws.length) (h8 : ws.length ≤ 8) : ∃ us : List U, value_Set.f (ws.map uidV) = some (5, false, 0, ⟨#[]⟩, ⟨#[]⟩, ⟨#[]⟩, us.map uidV, 0) ∧ (∀ F : U → Bool, us.any F = ws.any F) ∧ 0 < us.length ∧ us.length ≤ 8 := by
  obtain ⟨us, h1, h2, h3⟩ := fold_uid ws []
  have hs : setV (ws.map uidV) = us.map uidV := h1
  have h2' : ∀ F : U → Bool, us.any F = ws.any F := fun F => by rw [h2]; rfl
  have hl : us.length ≤ 8 := by simp at h3; omega
  refine ⟨us, ?_, h2', ?_, hl⟩
  · have hg : goodN (ws.map uidV) = (ws.map uidV).length := by
      unfold goodN
      cases ws with
      | nil => simp at h0
      | cons w ws =>
        have hd : ((w :: ws).map uidV).headD z39 = uidV w := rfl
        rw [hd, if_neg (show ¬ ((4 : Int) = 5) by decide), take_all]
        intro x hx
        obtain ⟨u, _, rfl⟩ := List.mem_map.1 hx
        rfl
    unfold value_Set.f
    rw [if_pos (by simp; omega), hg, if_neg (by omega), hs, if_pos (by simpa using hl)]
  · have := h2' (fun _ => true)
    cases us with
    | nil =>
      cases ws with
      | nil => simp at h0
      | cons w ws => simp at this
    | cons u us => simp
theorem orTo_any (F : U → Bool) (us : List U) (z : U) : ∀ q, q ≤ us.length → orTo (fun j => F ((us[j]?).getD z)) q = (us.take q).any F
  | 0, _ => by simp [orTo]
  | q + 1, h => by
    have hq : q < us.length := by omega
    rw [orTo, orTo_any F us z q (by omega), List.take_add_one, List.getElem?_eq_getElem hq, List.any_append]
    simp
theorem expr_uid (A : Option Addr) (n c : Nat) (p0 p1 p2 p3 p4 p5 : ByteArray) (eb : Bool) (m : Int) (s : ByteArray) (u : U) (K : Value) (W0 : World) : SaysG (.agg #[.slice A n c, .string p0, .string p1, .string p2, .string p3, .string p4, .string p5]) (.agg #[.int .i64 4, .bool eb, .int .i64 m, .string s, .string u.f0, .string u.f1, K]) (uidV u) 0 W0 :=
  fun W' hW => ((expr_leaf A n c p0 p1 p2 p3 p4 p5 4 eb m s u.f0 u.f1 K ⟨4, false, 0, ⟨#[]⟩, u.f0, u.f1⟩ (by decide) (fun W => leaf_uid A n c p0 p1 p2 p3 p4 p5 eb m s u.f0 u.f1 K W) W0) W' hW).mono fun _ _ h => Gv.ofF h
set_option maxRecDepth 100000 in
set_option maxHeartbeats 16000000 in
theorem expr_setg (A : Option Addr) (n c : Nat) (p0 p1 p2 p3 p4 p5 : ByteArray) (B : Option Addr) (nb kc : Nat) (r : Vl) (rc : Int) (W0 : World) (hS : ∀ W, Below W0.heap.size W0 W → Calls Tryz.prog 32 #[.agg #[.slice A n c, .string p0, .string p1, .string p2, .string p3, .string p4, .string p5], .slice B nb kc] W (Gv W r rc)) : SaysG (.agg #[.slice A n c, .string p0, .string p1, .string p2, .string p3, .string p4, .string p5]) (.agg #[.int .i64 6, .bool false, .int .i64 0, .string ⟨#[]⟩, .string ⟨#[]⟩, .string ⟨#[]⟩, .slice B nb kc]) r rc W0 := by
  intro w hw
  have HS : Aside0 (∀ W, Below w.heap.size w W → Calls Tryz.prog 32 #[.agg #[.slice A n c, .string p0, .string p1, .string p2, .string p3, .string p4, .string p5], .slice B nb kc] W (Gv W r rc)) := ⟨fun W hW => hS W (below_step hw hW)⟩
  have HX := Aside0.mk (XB.new w #[.slice A n c, .string p0, .string p1, .string p2, .string p3, .string p4, .string p5] #[.int .i64 6, .bool false, .int .i64 0, .string ⟨#[]⟩, .string ⟨#[]⟩, .string ⟨#[]⟩, .slice B nb kc])
  clear hS hw
  go_enter Tryz.func18, Tryz.ntmps18
  go_wp2_with (go_at_call 32; refine (HS.out _ HX.out.be).mono ?_; rintro e w2 ⟨K, rfl, hV, hb⟩; have HV := Aside0.mk hV; have HX2 := Aside0.mk (HX.out.step hb); have hz1 := blk_lt HX.out.b2; obtain ⟨A8, c8, rfl⟩ := Kd.V_slice hV; clear hV hb; obtain ⟨q0, q1, q2, q3, q4, q5, q6⟩ := cells7 HX2.out.b2; obtain ⟨f0, f1, f2, f3, f4, f5, f6⟩ := froz7 HX2.out.b2; have hsz := blk_lt HX2.out.b2)
  (try simp only [Exit.inBlock, Exit.then])
  refine bodyPost_ret (results_row_tmp rfl _ _ (w.heap.size + 2) 39 _ (0, 0) _ rfl (set7_blk HX2.out.b2 _ _ _ _ _ _ _) Tryz.underlying39 rfl (by kernel_rfl)) rfl ?_
  exact ⟨_, rfl, V_fin HV.out (by omega) (by omega) _ _ _ _ _ _ _, set7_below HX2.out.be (by omega) _ _ _ _ _ _ _⟩
theorem ask_uid (l : List En) (hl : okL l = true) (u : U) (hu : okU u = true) (A : Option Addr) (c : Nat) (hc : l.length ≤ c) (a : U) (ha : okU a = true) (W : World) (gk : Nat) (hC : k32.C W A l.length l) (hk : W.heap[gk]? = some (.cells #[.int .i64 4, .bool false, .int .i64 0, .string ⟨#[]⟩, .string u.f0, .string u.f1, .slice none 0 0, .int .i64 4, .bool false, .int .i64 0, .string ⟨#[]⟩, .string a.f0, .string a.f1, .slice none 0 0] 36 (0, 0))) : Calls Tryz.prog 8 #[.slice A l.length c, .agg #[.string ⟨#[]⟩, .string ⟨#[]⟩, .string ⟨#[]⟩, .string ⟨#[]⟩, .string ⟨#[]⟩, .string ⟨#[]⟩], .agg #[.int .i64 22, .bool false, .int .i64 0, .string ⟨#[]⟩, .string ⟨#[]⟩, .string ⟨#[]⟩, .slice (some ⟨gk, 0, none⟩) 2 2]] W (Gv W (trVl (inF l u a)) 0) := by
  refine Expr_g A l.length c ⟨#[]⟩ ⟨#[]⟩ ⟨#[]⟩ ⟨#[]⟩ ⟨#[]⟩ ⟨#[]⟩ 22 false 0 ⟨#[]⟩ ⟨#[]⟩ ⟨#[]⟩ (some ⟨gk, 0, none⟩) 2 2 (trVl (inF l u a)) 0 W (fun W' hW => ?_)
  refine expr_two_g A l.length c ⟨#[]⟩ ⟨#[]⟩ ⟨#[]⟩ ⟨#[]⟩ ⟨#[]⟩ ⟨#[]⟩ 22 false 0 ⟨#[]⟩ ⟨#[]⟩ ⟨#[]⟩ gk 2 4 false 0 ⟨#[]⟩ u.f0 u.f1 none 0 0 4 false 0 ⟨#[]⟩ a.f0 a.f1 none 0 0 (uidV u) (uidV a) (trVl (inF l u a)) 0 (by decide) (by decide) W hk ?_ ?_ ?_ W' hW
  · exact expr_uid A l.length c ⟨#[]⟩ ⟨#[]⟩ ⟨#[]⟩ ⟨#[]⟩ ⟨#[]⟩ ⟨#[]⟩ false 0 ⟨#[]⟩ u (.slice none 0 0) W
  · exact expr_uid A l.length c ⟨#[]⟩ ⟨#[]⟩ ⟨#[]⟩ ⟨#[]⟩ ⟨#[]⟩ ⟨#[]⟩ false 0 ⟨#[]⟩ a (.slice none 0 0) W
  · refine double_in_g A l.length c ⟨#[]⟩ ⟨#[]⟩ ⟨#[]⟩ ⟨#[]⟩ ⟨#[]⟩ ⟨#[]⟩ _ _ _ _ W (fun W2 Ax Ay cx cy hb hx hy => ?_)
    exact (in_uids A l.length c ⟨#[]⟩ ⟨#[]⟩ ⟨#[]⟩ ⟨#[]⟩ ⟨#[]⟩ ⟨#[]⟩ u.f0 u.f1 a.f0 a.f1 (inF l u a) W2 (fun W3 h3 => in_calls0 l hl u a hu ha A c W3 hc (Kd.C_below hC (below_step hb h3)))).mono fun _ _ h => Gv.ofF h
theorem set_kids (A : Option Addr) (n c : Nat) (p0 p1 p2 p3 p4 p5 : ByteArray) (ws : List U) (us : List U) (h8 : ws.length ≤ 8) (hset : value_Set.f (ws.map uidV) = some (5, false, 0, ⟨#[]⟩, ⟨#[]⟩, ⟨#[]⟩, us.map uidV, 0)) (B : Option Addr) (kc : Nat) (W : World) (hB : k36.C W B (ws.map uidX).length (ws.map uidX)) :
    SaysG (.agg #[.slice A n c, .string p0, .string p1, .string p2, .string p3, .string p4, .string p5]) (.agg #[.int .i64 6, .bool false, .int .i64 0, .string ⟨#[]⟩, .string ⟨#[]⟩, .string ⟨#[]⟩, .slice B (ws.map uidX).length kc]) ⟨5, false, 0, ⟨#[]⟩, ⟨⟨#[]⟩, ⟨#[]⟩⟩, us.map uidV⟩ 0 W := by
  refine expr_setg A n c p0 p1 p2 p3 p4 p5 B _ kc _ 0 W (fun W' hW => ?_)
  refine set_walk A n c p0 p1 p2 p3 p4 p5 (ws.map uidX) (ws.map uidV) (by simp) (by simp; omega) W' (fun k x v hx hv Ax cx => ?_) ⟨5, false, 0, ⟨#[]⟩, ⟨⟨#[]⟩, ⟨#[]⟩⟩, us.map uidV⟩ 0 hset B kc (Kd.C_below hB hW)
  rw [List.getElem?_map] at hx hv
  obtain ⟨w1, e1, rfl⟩ := Option.map_eq_some_iff.1 hx
  obtain ⟨w2, e2, rfl⟩ := Option.map_eq_some_iff.1 hv
  rw [e1] at e2
  cases e2
  exact expr_uid A n c p0 p1 p2 p3 p4 p5 false 0 ⟨#[]⟩ w1 _ W'
theorem ask_set (l : List En) (hl : okL l = true) (u : U) (hu : okU u = true) (A : Option Addr) (c : Nat) (hc : l.length ≤ c) (ws : List U) (hws : ∀ a ∈ ws, okU a = true) (h0 : 0 < ws.length) (h8 : ws.length ≤ 8) (B : Option Addr) (kc : Nat) (W : World) (gk : Nat) (hC : k32.C W A l.length l) (hB : k36.C W B (ws.map uidX).length (ws.map uidX)) (hk : W.heap[gk]? = some (.cells #[.int .i64 4, .bool false, .int .i64 0, .string ⟨#[]⟩, .string u.f0, .string u.f1, .slice none 0 0, .int .i64 6, .bool false, .int .i64 0, .string ⟨#[]⟩, .string ⟨#[]⟩, .string ⟨#[]⟩, .slice B (ws.map uidX).length kc] 36 (0, 0))) : Calls Tryz.prog 8 #[.slice A l.length c, .agg #[.string ⟨#[]⟩, .string ⟨#[]⟩, .string ⟨#[]⟩, .string ⟨#[]⟩, .string ⟨#[]⟩, .string ⟨#[]⟩], .agg #[.int .i64 22, .bool false, .int .i64 0, .string ⟨#[]⟩, .string ⟨#[]⟩, .string ⟨#[]⟩, .slice (some ⟨gk, 0, none⟩) 2 2]] W (Gv W (trVl (ws.any (inF l u))) 0) := by
  obtain ⟨us, hset, hany, hu0, hu8⟩ := set_uids ws h0 h8
  have hok : ∀ a ∈ us, okU a = true := by
    intro a ha
    have h1 := hany (fun x => !okU x)
    have h2 : ws.any (fun x => !okU x) = false := by
      rw [List.any_eq_false]; intro x hx; simp [hws x hx]
    rw [h2, List.any_eq_false] at h1
    simpa using h1 a ha
  have hor : orTo (fun j => inF l u ((us[j]?).getD u)) (us.map uidV).length = ws.any (inF l u) := by
    rw [List.length_map, orTo_any _ _ _ _ (Nat.le_refl _), List.take_length, hany]
  refine Expr_g A l.length c ⟨#[]⟩ ⟨#[]⟩ ⟨#[]⟩ ⟨#[]⟩ ⟨#[]⟩ ⟨#[]⟩ 22 false 0 ⟨#[]⟩ ⟨#[]⟩ ⟨#[]⟩ (some ⟨gk, 0, none⟩) 2 2 (trVl (ws.any (inF l u))) 0 W (fun W' hW => ?_)
  refine expr_two_g A l.length c ⟨#[]⟩ ⟨#[]⟩ ⟨#[]⟩ ⟨#[]⟩ ⟨#[]⟩ ⟨#[]⟩ 22 false 0 ⟨#[]⟩ ⟨#[]⟩ ⟨#[]⟩ gk 2 4 false 0 ⟨#[]⟩ u.f0 u.f1 none 0 0 6 false 0 ⟨#[]⟩ ⟨#[]⟩ ⟨#[]⟩ B (ws.map uidX).length kc (uidV u) ⟨5, false, 0, ⟨#[]⟩, ⟨⟨#[]⟩, ⟨#[]⟩⟩, us.map uidV⟩ (trVl (ws.any (inF l u))) 0 (by decide) (by decide) W hk ?_ ?_ ?_ W' hW
  · exact expr_uid A l.length c ⟨#[]⟩ ⟨#[]⟩ ⟨#[]⟩ ⟨#[]⟩ ⟨#[]⟩ ⟨#[]⟩ false 0 ⟨#[]⟩ u (.slice none 0 0) W
  · exact set_kids A l.length c ⟨#[]⟩ ⟨#[]⟩ ⟨#[]⟩ ⟨#[]⟩ ⟨#[]⟩ ⟨#[]⟩ ws us h8 hset B kc W hB
  · refine double_in_g A l.length c ⟨#[]⟩ ⟨#[]⟩ ⟨#[]⟩ ⟨#[]⟩ ⟨#[]⟩ ⟨#[]⟩ _ _ _ _ W (fun W2 Ax Ay cx cy hb hx hy => ?_)
    rw [← hor]
    refine in_set A l.length c ⟨#[]⟩ ⟨#[]⟩ ⟨#[]⟩ ⟨#[]⟩ ⟨#[]⟩ ⟨#[]⟩ u.f0 u.f1 (us.map uidV) (by simpa using hu0) (by simp) (by simp; omega) (fun j => inF l u ((us[j]?).getD u)) Ay cy W2 hy (fun j hj W3 h3 => ?_)
    have hj' : j < us.length := by simpa using hj
    have e1 : (us[j]?).getD u = us[j] := by rw [List.getElem?_eq_getElem hj']; rfl
    have e2 : (us.map uidV)[j].f4 = us[j] := by rw [List.getElem_map]
    simp only [e1, e2]
    exact in_calls0 l hl u us[j] hu (hok _ (List.getElem_mem hj')) A c W3 hc (Kd.C_below hC (below_step hb h3))
theorem ask_type (l : List En) (hl : okL l = true) (u : U) (hu : okU u = true) (A : Option Addr) (c : Nat) (hc : l.length ≤ c) (ws : List U) (h0 : 0 < ws.length) (h8 : ws.length ≤ 8) (B : Option Addr) (kc : Nat) (W : World) (gk : Nat) (hB : k36.C W B (ws.map uidX).length (ws.map uidX)) (hk : W.heap[gk]? = some (.cells #[.int .i64 6, .bool false, .int .i64 0, .string ⟨#[]⟩, .string ⟨#[]⟩, .string ⟨#[]⟩, .slice B (ws.map uidX).length kc, .int .i64 4, .bool false, .int .i64 0, .string ⟨#[]⟩, .string u.f0, .string u.f1, .slice none 0 0] 36 (0, 0))) : Calls Tryz.prog 8 #[.slice A l.length c, .agg #[.string ⟨#[]⟩, .string ⟨#[]⟩, .string ⟨#[]⟩, .string ⟨#[]⟩, .string ⟨#[]⟩, .string ⟨#[]⟩], .agg #[.int .i64 22, .bool false, .int .i64 0, .string ⟨#[]⟩, .string ⟨#[]⟩, .string ⟨#[]⟩, .slice (some ⟨gk, 0, none⟩) 2 2]] W (Gv W zVl 16) := by
  obtain ⟨us, hset, hany, hu0, hu8⟩ := set_uids ws h0 h8
  refine Expr_g A l.length c ⟨#[]⟩ ⟨#[]⟩ ⟨#[]⟩ ⟨#[]⟩ ⟨#[]⟩ ⟨#[]⟩ 22 false 0 ⟨#[]⟩ ⟨#[]⟩ ⟨#[]⟩ (some ⟨gk, 0, none⟩) 2 2 zVl 16 W (fun W' hW => ?_)
  refine expr_two_g A l.length c ⟨#[]⟩ ⟨#[]⟩ ⟨#[]⟩ ⟨#[]⟩ ⟨#[]⟩ ⟨#[]⟩ 22 false 0 ⟨#[]⟩ ⟨#[]⟩ ⟨#[]⟩ gk 2 6 false 0 ⟨#[]⟩ ⟨#[]⟩ ⟨#[]⟩ B (ws.map uidX).length kc 4 false 0 ⟨#[]⟩ u.f0 u.f1 none 0 0 ⟨5, false, 0, ⟨#[]⟩, ⟨⟨#[]⟩, ⟨#[]⟩⟩, us.map uidV⟩ (uidV u) zVl 16 (by decide) (by decide) W hk ?_ ?_ ?_ W' hW
  · exact set_kids A l.length c ⟨#[]⟩ ⟨#[]⟩ ⟨#[]⟩ ⟨#[]⟩ ⟨#[]⟩ ⟨#[]⟩ ws us h8 hset B kc W hB
  · exact expr_uid A l.length c ⟨#[]⟩ ⟨#[]⟩ ⟨#[]⟩ ⟨#[]⟩ ⟨#[]⟩ ⟨#[]⟩ false 0 ⟨#[]⟩ u (.slice none 0 0) W
  · refine double_in_g A l.length c ⟨#[]⟩ ⟨#[]⟩ ⟨#[]⟩ ⟨#[]⟩ ⟨#[]⟩ ⟨#[]⟩ _ _ _ _ W (fun W2 Ax Ay cx cy hb hx hy => ?_)
    exact in_type A l.length c ⟨#[]⟩ ⟨#[]⟩ ⟨#[]⟩ ⟨#[]⟩ ⟨#[]⟩ ⟨#[]⟩ Ax (us.map uidV).length cx _ W2
end Go.Proofs.YtelibndkkokadaaGreat.EV
