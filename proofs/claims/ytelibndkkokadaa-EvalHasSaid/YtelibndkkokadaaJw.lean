import Derived.Test.YtelibndkkokadaaGB0
import Derived.Test.YtelibndkkokadaaJv
import Derived.Test.YtelibndkkokadaaSqz
import Derived.Test.YtelibndkkokadaaJa
import Derived.Test.YtelibndkkokadaaEd
import Derived.Deep.RegionWith
namespace Go.Proofs.Ytelibndkkokadaa.EV
open Go.RowKit Go.Proofs.YtelibndkkokadaaW.PrintWords Go.Proofs.YtelibndkkokadaaW.PrintLast Go.Proofs.Ytelibndkkokadaa.HandV Go.Proofs.YtelibndkkokadaaW.PrintMore
open Go.Proofs.Ytelibndkkokadaa.GB
attribute [local go_sem] max2_int min2_int max_two min_two max_three min_three max_four min_four   -- for this text's walks alone
set_option linter.unusedVariables false
set_option linter.unusedSimpArgs false
-- IMPORT .EV3
-- IMPORT .Sqz
-- IMPORT .A3
-- IMPORT .Ed
open GA (En okL)
abbrev At := S58
abbrev Vl := S55
theorem rdA {ats : List At} {j : Nat} (h : j < ats.length) : rd_T58 ats (j : Int) = ats[j] := by
  unfold rd_T58
  rw [Int.toNat_natCast, List.getD_eq_getElem?_getD, List.getElem?_eq_getElem h]; rfl
/-- An attribute in memory. -/
theorem atC {W : World} {A : Option Addr} {ats : List At} (h : k58.C W A ats.length ats) {j : Nat} (hj : j < ats.length) : ∃ (ad : Addr) (A7 : Option Addr) (c7 : Nat), A = some ad ∧ W.cell? (ad.add (j * 8)) = some (.string ats[j].f0) ∧ W.cell? ⟨(ad.add (j * 8)).block, (ad.add (j * 8)).off + 1, none⟩ = some (.int .i64 ats[j].f1.f0) ∧ W.cell? ⟨(ad.add (j * 8)).block, (ad.add (j * 8)).off + 2, none⟩ = some (.bool ats[j].f1.f1) ∧ W.cell? ⟨(ad.add (j * 8)).block, (ad.add (j * 8)).off + 3, none⟩ = some (.int .i64 ats[j].f1.f2) ∧ W.cell? ⟨(ad.add (j * 8)).block, (ad.add (j * 8)).off + 4, none⟩ = some (.string ats[j].f1.f3) ∧ W.cell? ⟨(ad.add (j * 8)).block, (ad.add (j * 8)).off + 5, none⟩ = some (.string ats[j].f1.f4.f0) ∧ W.cell? ⟨(ad.add (j * 8)).block, (ad.add (j * 8)).off + 6, none⟩ = some (.string ats[j].f1.f4.f1) ∧ W.cell? ⟨(ad.add (j * 8)).block, (ad.add (j * 8)).off + 7, none⟩ = some (.slice A7 ats[j].f1.f5.length c7) ∧ ats[j].f1.f5.length ≤ c7 ∧ k55.C W A7 ats[j].f1.f5.length ats[j].f1.f5 := by
  obtain ⟨ad, A7, c7, e, g0, g1, g2, g3, g4, g5, g6, g7, l7, h7⟩ := at_T58 h (j : Int) (by omega) (by omega)
  rw [rdA hj] at g0 g1 g2 g3 g4 g5 g6 g7 l7 h7
  rw [Int.toNat_natCast] at g0 g1 g2 g3 g4 g5 g6 g7
  exact ⟨ad, A7, c7, e, g0, g1, g2, g3, g4, g5, g6, g7, l7, h7⟩
/-- The boxes of Get. -/
structure GS (w : World) (ec : Array Value) (W : World) : Prop where
  b0 : W.heap[w.heap.size]? = some (.cells ec 38 (0, 0))
  b1 : W.heap[w.heap.size + 1]? = some zO
  be : Below w.heap.size w W
theorem GS.step {w W W' : World} {ec : Array Value} (h : GS w ec W) (hb : Below W.heap.size W W') : GS w ec W' := ⟨blk_below h.b0 hb, blk_below h.b1 hb, below_step h.be hb⟩
theorem GS.new (w : World) (ec : Array Value) : GS w ec ((w.alloc (.cells ec 38 (0, 0))).alloc zO) := ⟨blk_alloc (blk_new _ _) _, bn2 _ _ _, below_alloc (below_alloc (Below.refl _ _) _) _⟩
/-- A row behind the store into another block. -/
theorem V_fin {α : Type} {d : Kd α} {e : Nat} {W : World} {n g base : Nat} {v : Value} {xs : List α} (h : Kd.V d e W n (fun q => n ≤ q) v xs) (hg : g < n) (hb : base ≤ n) (v0 v1 v2 v3 v4 v5 v6 : Value) : Kd.V d e (set7 W g v0 v1 v2 v3 v4 v5 v6) base (fun q => base ≤ q) v xs := by
  have hne : ∀ k, n ≤ k → k ≠ g := fun k hk => by omega
  exact Kd.V_lower (Kd.V_mono (Kd.V_far (p := ⟨g, 6, none⟩) (Kd.V_far (p := ⟨g, 5, none⟩) (Kd.V_far (p := ⟨g, 4, none⟩) (Kd.V_far (p := ⟨g, 3, none⟩) (Kd.V_far (p := ⟨g, 2, none⟩) (Kd.V_far (p := ⟨g, 1, none⟩) (Kd.V_far (p := ⟨g, 0, none⟩) h hne v0) hne v1) hne v2) hne v3) hne v4) hne v5) hne v6) (fun k hk => Nat.le_trans hb hk)) hb
theorem bs_ne {x s : ByteArray} (h : x ≠ s) : (x.toList == s.toList) = false := by
  rw [beq_eq_false_iff_ne]
  intro e
  exact h (ByteArray.ext (Array.toList_inj.1 (by rw [← ByteArray.toList_eq, ← ByteArray.toList_eq]; exact e)))
set_option maxRecDepth 100000 in
set_option maxHeartbeats 16000000 in
theorem get_has (t i : ByteArray) (P2 : Option Addr) (n2 c2 : Nat) (ats : List At) (A : Option Addr) (c : Nat) (s : ByteArray) (j : Nat) (hj : j < ats.length) (hjs : ats[j].f0 = s) (hbe : ∀ q (h : q < ats.length), q < j → ats[q].f0 ≠ s) (hs : ∀ a ∈ ats, GT.smV a.f1 = true) (hlen : ats.length ≤ 1000000) (w : World) (hc : ats.length ≤ c) (hC : k58.C w A ats.length ats) :
    Calls Try.prog 30 #[.agg #[.string t, .string i, .slice P2 n2 c2, .slice A ats.length c], .string s] w fun e w' => ∃ K : Value, e = .returned (.tuple #[.agg #[.int .i64 ats[j].f1.f0, .bool ats[j].f1.f1, .int .i64 ats[j].f1.f2, .string ats[j].f1.f3, .string ats[j].f1.f4.f0, .string ats[j].f1.f4.f1, K], .bool true]) ∧ Kd.V k55 55 w' w.heap.size (fun q => w.heap.size ≤ q) K ats[j].f1.f5 ∧ Below w.heap.size w w' := by
  have HX := Aside0.mk (GS.new w #[.string t, .string i, .slice P2 n2 c2, .slice A ats.length c])
  have HT : Aside0 (GT.TwinV ats[j].f1) := ⟨GT.twinV_any _ (hs _ (List.getElem_mem hj))⟩
  have HC := Aside0.mk hC
  have HN := Aside0.mk hbe
  clear hs hC hbe hc
  subst hjs
  go_enter Try.func30, Try.ntmps30
  go_wp2
  generalize (w.alloc (.cells #[.string t, .string i, .slice P2 n2 c2, .slice A ats.length c] 38)).alloc (.cells #[.int .i64 0, .bool false, .int .i64 0, .string ⟨#[]⟩, .string ⟨#[]⟩, .string ⟨#[]⟩, .slice none 0 0] 55) = w3 at HX ⊢
  go_loopw [11] (fun v11 wr => ∃ q : Nat, v11 = .int .i64 q ∧ q ≤ j ∧ GS w #[.string t, .string i, .slice P2 n2 c2, .slice A ats.length c] wr) (fun v11 _ => j - (intOf v11).toNat)
  case atStart => exact ⟨0, rfl, Nat.zero_le _, HX.out⟩
  case round =>
    clear HX
    obtain ⟨q, rfl, hq, hX⟩ := hrel
    have HX := Aside0.mk hX
    clear hX
    have d1 : ((q : Int) < (ats.length : Int)) = True := eq_true (by omega)
    have d2 : q < ats.length := by omega
    obtain ⟨ad, A7, c7, rfl, g0, g1, g2, g3, g4, g5, g6, g7, l7, h7⟩ := atC (Kd.C_below HC.out HX.out.be) d2
    by_cases hqj : q < j
    · have hne := bs_ne (HN.out q d2 hqj)
      have HX2 := fun o => Aside0.mk (HX.out.step (below_alloc (Below.refl _ _) o))
      clear h7 l7
      go_wp2
      go_roundw
      case rel => exact ⟨q + 1, by go_num, by omega, (HX2 _).out⟩
      case measure => simp [intOf]; omega
    · obtain rfl : q = j := by omega
      have H7 := Aside0.mk h7
      have L7 := Aside0.mk l7
      clear h7 l7
      have HB := Aside0.mk HX.out
      go_wp2_with (go_at_call 61; refine (HT.out A7 c7 _ L7.out (Kd.C_below H7.out (below_alloc (Below.refl _ _) _))).mono ?_; rintro e w2 ⟨v6, rfl, hV, hb⟩; have HV := Aside0.mk hV; have HX2 := Aside0.mk ((HX.out.step (below_alloc (Below.refl _ _) _)).step hb); obtain ⟨A8, c8, rfl⟩ := Kd.V_slice hV; clear hb hV; obtain ⟨q0, q1, q2, q3, q4, q5, q6⟩ := cells7 HX2.out.b1; obtain ⟨f0, f1, f2, f3, f4, f5, f6⟩ := froz7 HX2.out.b1)
      have hz : w.heap.size + 1 < (wr.alloc (.cells #[.string ats[q].f0, .int .i64 ats[q].f1.f0, .bool ats[q].f1.f1, .int .i64 ats[q].f1.f2, .string ats[q].f1.f3, .string ats[q].f1.f4.f0, .string ats[q].f1.f4.f1, .slice A7 ats[q].f1.f5.length c7] 58)).heap.size := by have := blk_lt HB.out.b1; simp; omega
      refine bodyPost_ret (results_row_tmp rfl _ _ (w.heap.size + 1) 55 _ (0, 0) _ rfl (set7_blk HX2.out.b1 _ _ _ _ _ _ _) Try.underlying55 rfl (by kernel_rfl)) rfl ?_
      exact ⟨_, rfl, V_fin HV.out hz (by omega) _ _ _ _ _ _ _, set7_below HX2.out.be (by omega) _ _ _ _ _ _ _⟩
set_option maxRecDepth 100000 in
set_option maxHeartbeats 16000000 in
theorem get_no (t i : ByteArray) (P2 : Option Addr) (n2 c2 : Nat) (ats : List At) (A : Option Addr) (c : Nat) (s : ByteArray) (hbe : ∀ q (h : q < ats.length), ats[q].f0 ≠ s) (hlen : ats.length ≤ 1000000) (w : World) (hc : ats.length ≤ c) (hC : k58.C w A ats.length ats) :
    Calls Try.prog 30 #[.agg #[.string t, .string i, .slice P2 n2 c2, .slice A ats.length c], .string s] w fun e w' => e = .returned (.tuple #[.agg #[.int .i64 0, .bool false, .int .i64 0, .string ⟨#[]⟩, .string ⟨#[]⟩, .string ⟨#[]⟩, .slice none 0 0], .bool false]) ∧ Below w.heap.size w w' := by
  have HX := Aside0.mk (GS.new w #[.string t, .string i, .slice P2 n2 c2, .slice A ats.length c])
  have HC := Aside0.mk hC
  have HN := Aside0.mk hbe
  clear hC hbe hc
  go_enter Try.func30, Try.ntmps30
  go_wp2
  generalize (w.alloc (.cells #[.string t, .string i, .slice P2 n2 c2, .slice A ats.length c] 38)).alloc (.cells #[.int .i64 0, .bool false, .int .i64 0, .string ⟨#[]⟩, .string ⟨#[]⟩, .string ⟨#[]⟩, .slice none 0 0] 55) = w3 at HX ⊢
  go_loopw [11] (fun v11 wr => ∃ q : Nat, v11 = .int .i64 q ∧ q ≤ ats.length ∧ GS w #[.string t, .string i, .slice P2 n2 c2, .slice A ats.length c] wr) (fun v11 _ => ats.length - (intOf v11).toNat)
  case atStart => exact ⟨0, rfl, Nat.zero_le _, HX.out⟩
  case round =>
    clear HX
    obtain ⟨q, rfl, hq, hX⟩ := hrel
    have HX := Aside0.mk hX
    clear hX
    by_cases hql : q < ats.length
    · have d1 : ((q : Int) < (ats.length : Int)) = True := eq_true (by omega)
      obtain ⟨ad, A7, c7, rfl, g0, g1, g2, g3, g4, g5, g6, g7, l7, h7⟩ := atC (Kd.C_below HC.out HX.out.be) hql
      have hne := bs_ne (HN.out q hql)
      have HX2 := fun o => Aside0.mk (HX.out.step (below_alloc (Below.refl _ _) o))
      clear h7 l7
      go_wp2
      go_roundw
      case rel => exact ⟨q + 1, by go_num, by omega, (HX2 _).out⟩
      case measure => simp [intOf]; omega
    · have d1 : ((q : Int) < (ats.length : Int)) = False := eq_false (by omega)
      obtain ⟨q0, q1, q2, q3, q4, q5, q6⟩ := cells7 HX.out.b1
      obtain ⟨f0, f1, f2, f3, f4, f5, f6⟩ := froz7 HX.out.b1
      go_wp2
      refine bodyPost_ret (results_row_tmp rfl _ _ (w.heap.size + 1) 55 _ (0, 0) _ rfl (set7_blk HX.out.b1 _ _ _ _ _ _ _) Try.underlying55 rfl (by kernel_rfl)) rfl ?_
      exact ⟨rfl, set7_below HX.out.be (by omega) _ _ _ _ _ _ _⟩
/-- What Find answers where the entity is there. -/
theorem find_there (l : List En) (hl : okL l = true) (e : En) (hb : GT.atB l e.f0.f0 e.f0.f1 = true) (he : l[GT.atI l e.f0.f0 e.f0.f1]? = some e) : ents_Find.f l e.f0.f0 e.f0.f1 = some (e.f0.f0, e.f0.f1, e.f1, e.f2, true) := by
  have h1 := GA.okL_len hl
  have hat : ents_at.f l e.f0.f0 e.f0.f1 = some (((GT.atI l e.f0.f0 e.f0.f1 : Nat) : Int), GT.atB l e.f0.f0 e.f0.f1) := by unfold ents_at.f; rw [if_pos (by omega)]
  unfold ents_Find.f
  rw [hat, Option.bind_some]
  have hlt : GT.atI l e.f0.f0 e.f0.f1 < l.length := GT.atB_lt hb
  have hrd : rd_T38 l ((GT.atI l e.f0.f0 e.f0.f1 : Nat) : Int) = e := by
    unfold rd_T38
    rw [Int.toNat_natCast, List.getD_eq_getElem?_getD, he]; rfl
  have hm : e ∈ l := List.mem_of_getElem? he
  rw [hb, if_pos rfl, if_pos (by omega), if_pos (by omega), hrd]
  unfold ents_twin.f
  rw [if_pos (GA.okL_mem hl hm).2.2.1]
  rfl
theorem find_gone (l : List En) (hl : okL l = true) (u : GA.U) (hb : GT.atB l u.f0 u.f1 = false) : ents_Find.f l u.f0 u.f1 = some (⟨#[]⟩, ⟨#[]⟩, [], [], false) := by
  have h1 := GA.okL_len hl
  have hat : ents_at.f l u.f0 u.f1 = some (((GT.atI l u.f0 u.f1 : Nat) : Int), GT.atB l u.f0 u.f1) := by unfold ents_at.f; rw [if_pos (by omega)]
  unfold ents_Find.f
  rw [hat, Option.bind_some, hb, if_neg (by simp)]
end Go.Proofs.Ytelibndkkokadaa.EV
namespace Go.Proofs.Ytelibndkkokadaa.EV
open Go.RowKit Go.Proofs.YtelibndkkokadaaW.PrintWords Go.Proofs.YtelibndkkokadaaW.PrintLast Go.Proofs.Ytelibndkkokadaa.HandV Go.Proofs.YtelibndkkokadaaW.PrintMore
open Go.Proofs.Ytelibndkkokadaa.GB
attribute [local go_sem] max2_int min2_int max_two min_two max_three min_three max_four min_four   -- for this text's walks alone
set_option linter.unusedVariables false
set_option linter.unusedSimpArgs false
-- IMPORT .EV10
-- IMPORT .Sqz
open GA (En okL)
/-- A value and an error came back, the value's row in memory of its own. -/
def Gv (W : World) (x : Vl) (er : Int) (e : Ending) (w' : World) : Prop := ∃ K : Value, e = .returned (.tuple #[.agg #[.int .i64 x.f0, .bool x.f1, .int .i64 x.f2, .string x.f3, .string x.f4.f0, .string x.f4.f1, K], .int .i64 er]) ∧ Kd.V k55 55 w' W.heap.size (fun q => W.heap.size ≤ q) K x.f5 ∧ Below W.heap.size W w'
abbrev zVl : Vl := ⟨0, false, 0, ⟨#[]⟩, ⟨⟨#[]⟩, ⟨#[]⟩⟩, []⟩
abbrev trVl (b : Bool) : Vl := ⟨1, b, 0, ⟨#[]⟩, ⟨⟨#[]⟩, ⟨#[]⟩⟩, []⟩
theorem Gv.flat {W w' : World} {x : Vl} {er : Int} (h5 : x.f5 = []) (hb : Below W.heap.size W w') : Gv W x er (.returned (.tuple #[.agg #[.int .i64 x.f0, .bool x.f1, .int .i64 x.f2, .string x.f3, .string x.f4.f0, .string x.f4.f1, .slice none 0 0], .int .i64 er])) w' := ⟨_, rfl, by rw [h5]; exact Kd.V_nil _ _ _ _ _, hb⟩
/-- The boxes of get. -/
structure WG (w : World) (wc uc : Array Value) (W : World) : Prop where
  b0 : W.heap[w.heap.size]? = some (.cells wc 108 (0, 0))
  b1 : W.heap[w.heap.size + 1]? = some zO
  b2 : W.heap[w.heap.size + 2]? = some (.cells uc 192 (0, 0))
  be : Below w.heap.size w W
theorem WG.step {w W W' : World} {wc uc : Array Value} (h : WG w wc uc W) (hb : Below W.heap.size W W') : WG w wc uc W' := ⟨blk_below h.b0 hb, blk_below h.b1 hb, blk_below h.b2 hb, below_step h.be hb⟩
theorem WG.new (w : World) (wc uc : Array Value) : WG w wc uc (((w.alloc (.cells wc 108 (0, 0))).alloc zO).alloc (.cells uc 192 (0, 0))) := ⟨blk_alloc (blk_alloc (blk_new _ _) _) _, blk_alloc (bn2 _ _ _) _, bn3 _ _ _ _, below_alloc (below_alloc (below_alloc (Below.refl _ _) _) _) _⟩
theorem b_al (w : World) (o : Obj) : Below w.heap.size w (w.alloc o) := below_alloc (Below.refl _ _) o
set_option maxRecDepth 100000 in
set_option maxHeartbeats 16000000 in
theorem wget_ok (l : List En) (hl : okL l = true) (A : Option Addr) (c : Nat) (p0 p1 p2 p3 p4 p5 : ByteArray) (s : ByteArray) (e0 : En) (hF : ents_Find.f l e0.f0.f0 e0.f0.f1 = some (e0.f0.f0, e0.f0.f1, e0.f1, e0.f2, true)) (j : Nat) (hj : j < e0.f2.length) (hjs : e0.f2[j].f0 = s) (hbe : ∀ q (h : q < e0.f2.length), q < j → e0.f2[q].f0 ≠ s) (hs : ∀ a ∈ e0.f2, GT.smV a.f1 = true) (hlen : e0.f2.length ≤ 1000000) (w : World) (hc : l.length ≤ c) (hC : k38.C w A l.length l) :
    Calls Try.prog 118 #[.agg #[.slice A l.length c, .string p0, .string p1, .string p2, .string p3, .string p4, .string p5], .iface 192 (.agg #[.string e0.f0.f0, .string e0.f0.f1]), .string s] w (Gv w e0.f2[j].f1 0) := by
  have h1 := ta_uid (.agg #[.string e0.f0.f0, .string e0.f0.f1])
  have HX := Aside0.mk (WG.new w #[.slice A l.length c, .string p0, .string p1, .string p2, .string p3, .string p4, .string p5] #[.string e0.f0.f0, .string e0.f0.f1])
  have HC := Aside0.mk hC
  have HL := Aside0.mk hc
  have HFd := Aside0.mk hF
  have HJ := Aside0.mk hjs
  have HBe := Aside0.mk hbe
  have HS := Aside0.mk hs
  clear hC hc hF hs hbe hjs hl
  unfold Gv
  go_enter Try.func118, Try.ntmps118
  go_wp2_with (first | (go_at_call 35; refine (ents_Find.calls A c l e0.f0.f0 e0.f0.f1 _ _ _ _ _ _ (Kd.C_below HC.out HX.out.be) HL.out HFd.out).mono ?_; rintro e w1 ⟨v2, v3, rfl, h2, h3, hb⟩; have HX1 := Aside0.mk (HX.out.step hb); obtain ⟨A2, c2, rfl⟩ := Kd.V_slice h2; obtain ⟨A3, c3, rfl⟩ := Kd.V_slice h3; have H3 := Aside0.mk (Kd.V_reads' h3).2; clear h2 h3 hb) | (go_at_call 30; refine (get_has _ _ _ _ _ e0.f2 A3 c3 s j hj HJ.out HBe.out HS.out hlen _ H3.out.1 (Kd.C_below H3.out.2 (b_al _ _))).mono ?_; rintro e w2 ⟨K, rfl, hV, hb⟩; have HX2 := Aside0.mk ((HX1.out.step (b_al _ _)).step hb); have HV := Aside0.mk hV; obtain ⟨A8, c8, rfl⟩ := Kd.V_slice hV; clear hV hb; obtain ⟨q0, q1, q2, q3, q4, q5, q6⟩ := cells7 HX2.out.b1; obtain ⟨f0, f1, f2, f3, f4, f5, f6⟩ := froz7 HX2.out.b1; have hsz := blk_lt HX2.out.b1))
  (try simp only [Exit.inBlock, Exit.then])
  refine bodyPost_ret (results_row_tmp rfl _ _ (w.heap.size + 1) 55 _ (0, 0) _ rfl (blk_alloc (set7_blk HX2.out.b1 _ _ _ _ _ _ _) _) Try.underlying55 rfl (by kernel_rfl)) rfl ?_
  have hz1 := blk_lt HX1.out.b1
  exact ⟨_, rfl, Kd.V_alloc (V_fin HV.out (by simp; omega) (by simp; omega) _ _ _ _ _ _ _) _, below_alloc (set7_below HX2.out.be (by omega) _ _ _ _ _ _ _) _⟩
set_option maxRecDepth 100000 in
set_option maxHeartbeats 16000000 in
theorem wget_name (l : List En) (A : Option Addr) (c : Nat) (p0 p1 p2 p3 p4 p5 : ByteArray) (s : ByteArray) (e0 : En) (hF : ents_Find.f l e0.f0.f0 e0.f0.f1 = some (e0.f0.f0, e0.f0.f1, e0.f1, e0.f2, true)) (hbe : ∀ q (h : q < e0.f2.length), e0.f2[q].f0 ≠ s) (hlen : e0.f2.length ≤ 1000000) (w : World) (hc : l.length ≤ c) (hC : k38.C w A l.length l) :
    Calls Try.prog 118 #[.agg #[.slice A l.length c, .string p0, .string p1, .string p2, .string p3, .string p4, .string p5], .iface 192 (.agg #[.string e0.f0.f0, .string e0.f0.f1]), .string s] w (Gv w zVl 15) := by
  have h1 := ta_uid (.agg #[.string e0.f0.f0, .string e0.f0.f1])
  have HX := Aside0.mk (WG.new w #[.slice A l.length c, .string p0, .string p1, .string p2, .string p3, .string p4, .string p5] #[.string e0.f0.f0, .string e0.f0.f1])
  have HC := Aside0.mk hC
  have HL := Aside0.mk hc
  have HFd := Aside0.mk hF
  have HBe := Aside0.mk hbe
  clear hC hc hF hbe
  go_enter Try.func118, Try.ntmps118
  go_wp2_with (first | (go_at_call 35; refine (ents_Find.calls A c l e0.f0.f0 e0.f0.f1 _ _ _ _ _ _ (Kd.C_below HC.out HX.out.be) HL.out HFd.out).mono ?_; rintro e w1 ⟨v2, v3, rfl, h2, h3, hb⟩; have HX1 := Aside0.mk (HX.out.step hb); obtain ⟨A2, c2, rfl⟩ := Kd.V_slice h2; obtain ⟨A3, c3, rfl⟩ := Kd.V_slice h3; have H3 := Aside0.mk (Kd.V_reads' h3).2; clear h2 h3 hb) | (go_at_call 30; refine (get_no _ _ _ _ _ e0.f2 A3 c3 s HBe.out hlen _ H3.out.1 (Kd.C_below H3.out.2 (b_al _ _))).mono ?_; rintro e w2 ⟨rfl, hb⟩; have HX2 := Aside0.mk ((HX1.out.step (b_al _ _)).step hb); clear hb; obtain ⟨q0, q1, q2, q3, q4, q5, q6⟩ := cells7 HX2.out.b1; obtain ⟨f0, f1, f2, f3, f4, f5, f6⟩ := froz7 HX2.out.b1; have hsz := blk_lt HX2.out.b1))
  (try simp only [Exit.inBlock, Exit.then])
  refine bodyPost_ret (results_row_tmp rfl _ _ (w.heap.size + 1) 55 _ (0, 0) _ rfl (blk_alloc (set7_blk HX2.out.b1 _ _ _ _ _ _ _) _) Try.underlying55 rfl (by kernel_rfl)) rfl ?_
  exact Gv.flat rfl (below_alloc (set7_below HX2.out.be (by omega) _ _ _ _ _ _ _) _)
set_option maxRecDepth 100000 in
set_option maxHeartbeats 16000000 in
theorem wget_gone (l : List En) (A : Option Addr) (c : Nat) (p0 p1 p2 p3 p4 p5 : ByteArray) (s : ByteArray) (u : GA.U) (hF : ents_Find.f l u.f0 u.f1 = some (⟨#[]⟩, ⟨#[]⟩, [], [], false)) (w : World) (hc : l.length ≤ c) (hC : k38.C w A l.length l) :
    Calls Try.prog 118 #[.agg #[.slice A l.length c, .string p0, .string p1, .string p2, .string p3, .string p4, .string p5], .iface 192 (.agg #[.string u.f0, .string u.f1]), .string s] w (Gv w zVl 18) := by
  have h1 := ta_uid (.agg #[.string u.f0, .string u.f1])
  have HX := Aside0.mk (WG.new w #[.slice A l.length c, .string p0, .string p1, .string p2, .string p3, .string p4, .string p5] #[.string u.f0, .string u.f1])
  have HC := Aside0.mk hC
  have HL := Aside0.mk hc
  have HFd := Aside0.mk hF
  clear hC hc hF
  go_enter Try.func118, Try.ntmps118
  go_wp2_with (go_at_call 35; refine (ents_Find.calls A c l u.f0 u.f1 _ _ _ _ _ _ (Kd.C_below HC.out HX.out.be) HL.out HFd.out).mono ?_; rintro e w1 ⟨v2, v3, rfl, h2, h3, hb⟩; have HX1 := Aside0.mk (HX.out.step hb); obtain ⟨A2, c2, rfl⟩ := Kd.V_slice h2; obtain ⟨A3, c3, rfl⟩ := Kd.V_slice h3; clear h2 h3 hb; obtain ⟨q0, q1, q2, q3, q4, q5, q6⟩ := cells7 HX1.out.b1; obtain ⟨f0, f1, f2, f3, f4, f5, f6⟩ := froz7 HX1.out.b1; have hsz := blk_lt HX1.out.b1)
  (try simp only [Exit.inBlock, Exit.then])
  refine bodyPost_ret (results_row_tmp rfl _ _ (w.heap.size + 1) 55 _ (0, 0) _ rfl (blk_alloc (set7_blk HX1.out.b1 _ _ _ _ _ _ _) _) Try.underlying55 rfl (by kernel_rfl)) rfl ?_
  exact Gv.flat rfl (below_alloc (set7_below HX1.out.be (by omega) _ _ _ _ _ _ _) _)
end Go.Proofs.Ytelibndkkokadaa.EV
namespace Go.Proofs.Ytelibndkkokadaa.EV
open Go.RowKit Go.Proofs.YtelibndkkokadaaW.PrintWords Go.Proofs.YtelibndkkokadaaW.PrintLast Go.Proofs.Ytelibndkkokadaa.HandV Go.Proofs.YtelibndkkokadaaW.PrintMore
open Go.Proofs.Ytelibndkkokadaa.GB
attribute [local go_sem] max2_int min2_int max_two min_two max_three min_three max_four min_four   -- for this text's walks alone
set_option linter.unusedVariables false
set_option linter.unusedSimpArgs false
-- IMPORT .EV11
-- IMPORT .EV4
-- IMPORT .Sqz
-- IMPORT Derived.Deep.RegionWith
/-- The boxes of has. -/
structure WH (w : World) (wc : Array Value) (W : World) : Prop where
  b0 : W.heap[w.heap.size]? = some (.cells wc 108 (0, 0))
  b1 : W.heap[w.heap.size + 1]? = some zO
  be : Below w.heap.size w W
theorem WH.step {w W W' : World} {wc : Array Value} (h : WH w wc W) (hb : Below W.heap.size W W') : WH w wc W' := ⟨blk_below h.b0 hb, blk_below h.b1 hb, below_step h.be hb⟩
theorem WH.new (w : World) (wc : Array Value) : WH w wc ((w.alloc (.cells wc 108 (0, 0))).alloc zO) := ⟨blk_alloc (blk_new _ _) _, bn2 _ _ _, below_alloc (below_alloc (Below.refl _ _) _) _⟩
set_option maxRecDepth 100000 in
set_option maxHeartbeats 16000000 in
theorem has_of (A : Option Addr) (n c : Nat) (p0 p1 p2 p3 p4 p5 : ByteArray) (x s : ByteArray) (ux : Value) (r : Vl) (er : Int) (h16 : er ≠ 16) (w : World) (hG : ∀ W, Below w.heap.size w W → Calls Try.prog 118 #[.agg #[.slice A n c, .string p0, .string p1, .string p2, .string p3, .string p4, .string p5], ux, .string s] W (Gv W r er)) : Calls Try.prog 119 #[.agg #[.slice A n c, .string p0, .string p1, .string p2, .string p3, .string p4, .string p5], ux, .string s] w (Gv w (trVl (er == 0)) 0) := by
  have HG := Aside0.mk hG
  have HX := Aside0.mk (WH.new w #[.slice A n c, .string p0, .string p1, .string p2, .string p3, .string p4, .string p5])
  have h1 : (er == 16) = false := beq_eq_false_iff_ne.mpr h16
  clear hG h16
  go_enter Try.func119, Try.ntmps119
  go_wp2_with (first | (go_at_call 118; refine (HG.out _ HX.out.be).mono ?_; rintro e w1 ⟨K, rfl, hV, hb⟩; have HX1 := Aside0.mk (HX.out.step hb); obtain ⟨A8, c8, rfl⟩ := Kd.V_slice hV; clear hV hb) | (go_at_call 115; refine (back_tr _ _).mono ?_; rintro e w2 ⟨rfl, hb⟩; have HX2 := Aside0.mk ((HX1.out.step (b_al _ _)).step hb); clear hb; obtain ⟨q0, q1, q2, q3, q4, q5, q6⟩ := cells7 HX2.out.b1; obtain ⟨f0, f1, f2, f3, f4, f5, f6⟩ := froz7 HX2.out.b1; have hsz := blk_lt HX2.out.b1))
  (try simp only [Exit.inBlock, Exit.then])
  refine bodyPost_ret (results_row_tmp rfl _ _ (w.heap.size + 1) 55 _ (0, 0) _ rfl (set7_blk HX2.out.b1 _ _ _ _ _ _ _) Try.underlying55 rfl (by kernel_rfl)) rfl ?_
  exact Gv.flat rfl (set7_below HX2.out.be (by omega) _ _ _ _ _ _ _)
/-- The boxes of single. -/
structure XS (w : World) (wc ec vc : Array Value) (W : World) : Prop where
  b0 : W.heap[w.heap.size]? = some (.cells wc 108 (0, 0))
  b1 : W.heap[w.heap.size + 1]? = some (.cells ec 72 (0, 0))
  b2 : W.heap[w.heap.size + 2]? = some (.cells vc 55 (0, 0))
  b3 : W.heap[w.heap.size + 3]? = some zO
  be : Below w.heap.size w W
theorem bn4' (w : World) (o1 o2 o3 o4 : Obj) : ((((w.alloc o1).alloc o2).alloc o3).alloc o4).heap[w.heap.size + 3]? = some o4 := by
  have h := bn3 (w.alloc o1) o2 o3 o4
  have hs : (w.alloc o1).heap.size = w.heap.size + 1 := by simp
  rw [hs] at h
  exact h
theorem XS.step {w W W' : World} {wc ec vc : Array Value} (h : XS w wc ec vc W) (hb : Below W.heap.size W W') : XS w wc ec vc W' := ⟨blk_below h.b0 hb, blk_below h.b1 hb, blk_below h.b2 hb, blk_below h.b3 hb, below_step h.be hb⟩
theorem XS.new (w : World) (wc ec vc : Array Value) : XS w wc ec vc ((((w.alloc (.cells wc 108 (0, 0))).alloc (.cells ec 72 (0, 0))).alloc (.cells vc 55 (0, 0))).alloc zO) :=
  ⟨blk_alloc (blk_alloc (blk_alloc (blk_new _ _) _) _) _, blk_alloc (blk_alloc (bn2 _ _ _) _) _, blk_alloc (bn3 _ _ _ _) _, bn4' _ _ _ _ _, below_alloc (below_alloc (below_alloc (below_alloc (Below.refl _ _) _) _) _) _⟩
set_option maxRecDepth 100000 in
set_option maxHeartbeats 16000000 in
theorem single_get (A : Option Addr) (n c : Nat) (p0 p1 p2 p3 p4 p5 : ByteArray) (eb : Bool) (en : Int) (s eu ev : ByteArray) (A5 : Option Addr) (n5 c5 : Nat) (b : Bool) (m : Int) (vs t i : ByteArray) (A6 : Option Addr) (n6 c6 : Nat) (r : Vl) (er : Int) (w : World) (hG : ∀ W, Below w.heap.size w W → Calls Try.prog 118 #[.agg #[.slice A n c, .string p0, .string p1, .string p2, .string p3, .string p4, .string p5], .iface 192 (.agg #[.string t, .string i]), .string s] W (Gv W r er)) : Calls Try.prog 95 #[.agg #[.slice A n c, .string p0, .string p1, .string p2, .string p3, .string p4, .string p5], .agg #[.int .i64 7, .bool eb, .int .i64 en, .string s, .string eu, .string ev, .slice A5 n5 c5], .agg #[.int .i64 4, .bool b, .int .i64 m, .string vs, .string t, .string i, .slice A6 n6 c6]] w (Gv w r er) := by
  have HG := Aside0.mk hG
  have HX := Aside0.mk (XS.new w #[.slice A n c, .string p0, .string p1, .string p2, .string p3, .string p4, .string p5] #[.int .i64 7, .bool eb, .int .i64 en, .string s, .string eu, .string ev, .slice A5 n5 c5] #[.int .i64 4, .bool b, .int .i64 m, .string vs, .string t, .string i, .slice A6 n6 c6])
  have HO := fun W => Aside0.mk (of_4 b m vs t i A6 n6 c6 W)
  clear hG
  go_enter Try.func95, Try.ntmps95
  go_wp2_with (first | (go_at_call 117; refine (HO _).out.mono ?_; rintro e w1 ⟨rfl, hb⟩; have HX1 := Aside0.mk (HX.out.step hb); clear hb; obtain ⟨y0, y1, y2, y3, y4, y5, y6⟩ := cells7 HX1.out.b1; obtain ⟨z0, z1, z2, z3, z4, z5, z6⟩ := cells7 HX1.out.b0) | (go_at_call 118; refine (HG.out _ HX1.out.be).mono ?_; rintro e w2 ⟨K, rfl, hV, hb⟩; have HV := Aside0.mk hV; have HX2 := Aside0.mk (HX1.out.step hb); obtain ⟨A8, c8, rfl⟩ := Kd.V_slice hV; clear hV hb; clear y0 y1 y2 y3 y4 y5 y6 z0 z1 z2 z3 z4 z5 z6; obtain ⟨q0, q1, q2, q3, q4, q5, q6⟩ := cells7 HX2.out.b3; obtain ⟨f0, f1, f2, f3, f4, f5, f6⟩ := froz7 HX2.out.b3; have hsz := blk_lt HX2.out.b3))
  (try simp only [Exit.inBlock, Exit.then])
  refine bodyPost_ret (results_row_tmp rfl _ _ (w.heap.size + 3) 55 _ (0, 0) _ rfl (set7_blk HX2.out.b3 _ _ _ _ _ _ _) Try.underlying55 rfl (by kernel_rfl)) rfl ?_
  have hz1 := blk_lt HX1.out.b3
  exact ⟨_, rfl, V_fin HV.out (by omega) (by omega) _ _ _ _ _ _ _, set7_below HX2.out.be (by omega) _ _ _ _ _ _ _⟩
set_option maxRecDepth 100000 in
set_option maxHeartbeats 16000000 in
theorem single_has (A : Option Addr) (n c : Nat) (p0 p1 p2 p3 p4 p5 : ByteArray) (eb : Bool) (en : Int) (s eu ev : ByteArray) (A5 : Option Addr) (n5 c5 : Nat) (b : Bool) (m : Int) (vs t i : ByteArray) (A6 : Option Addr) (n6 c6 : Nat) (r : Vl) (er : Int) (w : World) (hG : ∀ W, Below w.heap.size w W → Calls Try.prog 119 #[.agg #[.slice A n c, .string p0, .string p1, .string p2, .string p3, .string p4, .string p5], .iface 192 (.agg #[.string t, .string i]), .string s] W (Gv W r er)) : Calls Try.prog 95 #[.agg #[.slice A n c, .string p0, .string p1, .string p2, .string p3, .string p4, .string p5], .agg #[.int .i64 8, .bool eb, .int .i64 en, .string s, .string eu, .string ev, .slice A5 n5 c5], .agg #[.int .i64 4, .bool b, .int .i64 m, .string vs, .string t, .string i, .slice A6 n6 c6]] w (Gv w r er) := by
  have HG := Aside0.mk hG
  have HX := Aside0.mk (XS.new w #[.slice A n c, .string p0, .string p1, .string p2, .string p3, .string p4, .string p5] #[.int .i64 8, .bool eb, .int .i64 en, .string s, .string eu, .string ev, .slice A5 n5 c5] #[.int .i64 4, .bool b, .int .i64 m, .string vs, .string t, .string i, .slice A6 n6 c6])
  have HO := fun W => Aside0.mk (of_4 b m vs t i A6 n6 c6 W)
  clear hG
  go_enter Try.func95, Try.ntmps95
  go_wp2_with (first | (go_at_call 117; refine (HO _).out.mono ?_; rintro e w1 ⟨rfl, hb⟩; have HX1 := Aside0.mk (HX.out.step hb); clear hb; obtain ⟨y0, y1, y2, y3, y4, y5, y6⟩ := cells7 HX1.out.b1; obtain ⟨z0, z1, z2, z3, z4, z5, z6⟩ := cells7 HX1.out.b0) | (go_at_call 119; refine (HG.out _ HX1.out.be).mono ?_; rintro e w2 ⟨K, rfl, hV, hb⟩; have HV := Aside0.mk hV; have HX2 := Aside0.mk (HX1.out.step hb); obtain ⟨A8, c8, rfl⟩ := Kd.V_slice hV; clear hV hb; clear y0 y1 y2 y3 y4 y5 y6 z0 z1 z2 z3 z4 z5 z6; obtain ⟨q0, q1, q2, q3, q4, q5, q6⟩ := cells7 HX2.out.b3; obtain ⟨f0, f1, f2, f3, f4, f5, f6⟩ := froz7 HX2.out.b3; have hsz := blk_lt HX2.out.b3))
  (try simp only [Exit.inBlock, Exit.then])
  refine bodyPost_ret (results_row_tmp rfl _ _ (w.heap.size + 3) 55 _ (0, 0) _ rfl (set7_blk HX2.out.b3 _ _ _ _ _ _ _) Try.underlying55 rfl (by kernel_rfl)) rfl ?_
  have hz1 := blk_lt HX1.out.b3
  exact ⟨_, rfl, V_fin HV.out (by omega) (by omega) _ _ _ _ _ _ _, set7_below HX2.out.be (by omega) _ _ _ _ _ _ _⟩
theorem lt_set {W : World} {g : Nat} {p : Addr} {v : Value} (h : g < W.heap.size) : g < (W.setCell p v).heap.size := by simpa [World.setCell] using h
set_option maxRecDepth 100000 in
set_option maxHeartbeats 16000000 in
theorem expr_one (A : Option Addr) (n c : Nat) (p0 p1 p2 p3 p4 p5 : ByteArray) (o : Int) (b : Bool) (m : Int) (s t i : ByteArray) (g kc : Nat) (o0 : Int) (b0 : Bool) (m0 : Int) (s0 t0 i0 : ByteArray) (A0 : Option Addr) (n0 c0 : Nat) (y : Fl) (r : Vl) (er : Int) (ho : 6 < o) (ho2 : o < 23) (W0 : World) (hk : W0.heap[g]? = some (.cells #[.int .i64 o0, .bool b0, .int .i64 m0, .string s0, .string t0, .string i0, .slice A0 n0 c0] 72 (0, 0)))
    (h0 : Says (.agg #[.slice A n c, .string p0, .string p1, .string p2, .string p3, .string p4, .string p5]) (.agg #[.int .i64 o0, .bool b0, .int .i64 m0, .string s0, .string t0, .string i0, .slice A0 n0 c0]) y 0 W0) (hS : ∀ W, Below W0.heap.size W0 W → Calls Try.prog 95 #[.agg #[.slice A n c, .string p0, .string p1, .string p2, .string p3, .string p4, .string p5], .agg #[.int .i64 o, .bool b, .int .i64 m, .string s, .string t, .string i, .slice (some ⟨g, 0, none⟩) 1 kc], .agg #[.int .i64 y.k, .bool y.b, .int .i64 y.m, .string y.s, .string y.t, .string y.i, .slice none 0 0]] W (Gv W r er)) (w : World) (hw : Below W0.heap.size W0 w) : Calls Try.prog 71 #[.agg #[.slice A n c, .string p0, .string p1, .string p2, .string p3, .string p4, .string p5], .agg #[.int .i64 o, .bool b, .int .i64 m, .string s, .string t, .string i, .slice (some ⟨g, 0, none⟩) 1 kc]] w (Gv w r er) := by
  have c1 : decide (o < 6) = false := decide_eq_false (by omega)
  have c2 : (o == 6) = false := beq_eq_false_iff_ne.mpr (by omega)
  have c3 : decide (23 ≤ o) = false := decide_eq_false (by omega)
  have c4 : (o == 25) = false := beq_eq_false_iff_ne.mpr (by omega)
  have HH0 := Aside0.mk (h0.step hw)
  have HS : Aside0 (∀ W, Below w.heap.size w W → Calls Try.prog 95 #[.agg #[.slice A n c, .string p0, .string p1, .string p2, .string p3, .string p4, .string p5], .agg #[.int .i64 o, .bool b, .int .i64 m, .string s, .string t, .string i, .slice (some ⟨g, 0, none⟩) 1 kc], .agg #[.int .i64 y.k, .bool y.b, .int .i64 y.m, .string y.s, .string y.t, .string y.i, .slice none 0 0]] W (Gv W r er)) := ⟨fun W hW => hS W (below_step hw hW)⟩
  have HX : Aside0 (XK w #[.slice A n c, .string p0, .string p1, .string p2, .string p3, .string p4, .string p5] #[.int .i64 o, .bool b, .int .i64 m, .string s, .string t, .string i, .slice (some ⟨g, 0, none⟩) 1 kc] g #[.int .i64 o0, .bool b0, .int .i64 m0, .string s0, .string t0, .string i0, .slice A0 n0 c0] _) := ⟨XK.new w _ _ _ g (blk_below hk hw)⟩
  clear h0 hk hw ho ho2 hS
  go_enter Try.func71, Try.ntmps71
  go_upto_region 9 with (fail)
  generalize ((w.alloc (.cells #[.slice A n c, .string p0, .string p1, .string p2, .string p3, .string p4, .string p5] 108)).alloc (.cells #[.int .i64 o, .bool b, .int .i64 m, .string s, .string t, .string i, .slice (some ⟨g, 0, none⟩) 1 kc] 72)).alloc (.cells #[.int .i64 0, .bool false, .int .i64 0, .string ⟨#[]⟩, .string ⟨#[]⟩, .string ⟨#[]⟩, .slice none 0 0] 55) = w3 at HX ⊢
  replace HX : Aside0 (XK w #[.slice A n c, .string p0, .string p1, .string p2, .string p3, .string p4, .string p5] #[.int .i64 o, .bool b, .int .i64 m, .string s, .string t, .string i, .slice (some ⟨g, 0, none⟩) 1 kc] g #[.int .i64 o0, .bool b0, .int .i64 m0, .string s0, .string t0, .string i0, .slice A0 n0 c0] w3.drew) := ⟨HX.out.step (below_drew1 (Below.refl _ _))⟩
  refine start_ (n := 12) (S := fun w' => True) (ds := []) #[false, false, false, false, false, false, false, false, false, false, false, false] (by kernel_rfl) rfl rfl trivial (fun hHeld => ?_)
  refine with_tabW rv9_tab rv9_bits (fun HT_ HW_ => ?_)
  generalize w3.drew = wd at HX hHeld ⊢
  have H0 := Aside0.mk HX.out.b0
  have H1 := Aside0.mk HX.out.b1
  have HK := Aside0.mk HX.out.bk
  have KB_ := Aside0.mk (Below.refl wd.heap.size wd)
  refine inv_at [0, 1, 2, 3, 4, 5, 6, 7, 8, 9, 10, 11] (fun a0_ b a w' => ∃ (gx : Nat) (m9_ : Value), a = putSel a0_ b [(0, 64, .agg #[.slice A n c, .string p0, .string p1, .string p2, .string p3, .string p4, .string p5]), (1, 65, .pointer (some ⟨w.heap.size + 1, 6, none⟩)), (2, 66, .slice (some ⟨g, 0, none⟩) 1 kc), (3, 67, .pointer (some ⟨g, 0, none⟩)), (4, 68, .agg #[.int .i64 o0, .bool b0, .int .i64 m0, .string s0, .string t0, .string i0, .slice A0 n0 c0]), (5, 69, .tuple #[.agg #[.int .i64 y.k, .bool y.b, .int .i64 y.m, .string y.s, .string y.t, .string y.i, .slice none 0 0], .int .i64 0]), (6, 63, .tuple #[.agg #[.int .i64 y.k, .bool y.b, .int .i64 y.m, .string y.s, .string y.t, .string y.i, .slice none 0 0], .int .i64 0]), (7, 70, .agg #[.int .i64 y.k, .bool y.b, .int .i64 y.m, .string y.s, .string y.t, .string y.i, .slice none 0 0]), (8, 71, .int .i64 0), (9, 6, m9_), (11, 7, .int .i64 0)] ∧ (Below wd.heap.size wd w') ∧ (b 9 = true → wd.heap.size ≤ gx) ∧ (b 9 = true → gx < w'.heap.size) ∧ (b 9 = true → b 10 = false → w'.heap[gx]? = some (.cells #[.int .i64 0, .bool false, .int .i64 0, .string ⟨#[]⟩, .string ⟨#[]⟩, .string ⟨#[]⟩, .slice none 0 0] 55 (0, 0))) ∧ (b 10 = true → w'.heap[gx]? = some (.cells #[.int .i64 y.k, .bool y.b, .int .i64 y.m, .string y.s, .string y.t, .string y.i, .slice none 0 0] 55 (0, 0))) ∧ (b 9 = true → (m9_ : Value) = .pointer (some ⟨gx, 0, none⟩))) HT_.out HW_.out (by kernel_rfl) (by kernel_rfl) ?_ ?_ ?_
  · exact ⟨0, .bool false, by simp only [putSel, Bool.false_eq_true, if_false], KB_.out, fun h_ => absurd h_ (by decide), fun h_ => absurd h_ (by decide), fun h_ => absurd h_ (by decide), fun h_ => absurd h_ (by decide), fun h_ => absurd h_ (by decide)⟩
  · skip
    clear KB_
    refine steps_cons ?_ ?_
    · rintro b a w' ⟨gx, m9_, ha, Q_KB_, Q_GE_gx, Q_LT_gx, Q_Z_gx, Q_F_gx, Q_X9_⟩ hb_ hon hoff
      refine ⟨_, rfl, fun K hK => ?_⟩
      have e2 : a.tmps[2]? = some (.pointer (some ⟨w.heap.size, 0, none⟩)) := by rw [ha]; exact (putSel_off rfl).trans rfl
      replace ha := Aside0.mk ha
      have KB_ := Aside0.mk Q_KB_
      have c0_ : w'.cell? ⟨w.heap.size, 0, none⟩ = some (.slice A n c) := (blk_cell (blk_below H0.out KB_.out) 0).trans rfl
      have c1_ : w'.cell? ⟨w.heap.size, 1, none⟩ = some (.string p0) := (blk_cell (blk_below H0.out KB_.out) 1).trans rfl
      have c2_ : w'.cell? ⟨w.heap.size, 2, none⟩ = some (.string p1) := (blk_cell (blk_below H0.out KB_.out) 2).trans rfl
      have c3_ : w'.cell? ⟨w.heap.size, 3, none⟩ = some (.string p2) := (blk_cell (blk_below H0.out KB_.out) 3).trans rfl
      have c4_ : w'.cell? ⟨w.heap.size, 4, none⟩ = some (.string p3) := (blk_cell (blk_below H0.out KB_.out) 4).trans rfl
      have c5_ : w'.cell? ⟨w.heap.size, 5, none⟩ = some (.string p4) := (blk_cell (blk_below H0.out KB_.out) 5).trans rfl
      have c6_ : w'.cell? ⟨w.heap.size, 6, none⟩ = some (.string p5) := (blk_cell (blk_below H0.out KB_.out) 6).trans rfl
      refine value_ (w1 := w') (v := .agg #[.slice A n c, .string p0, .string p1, .string p2, .string p3, .string p4, .string p5]) (by rfl) rfl ?_ ?_
      · go_simp
        (try simp only [i64_w])
        try rfl
      refine hK.out _ _ ⟨gx, m9_, (by rw [ha.out]; exact putSel_upk 0 hb_ rfl rfl rfl), Q_KB_, Q_GE_gx, Q_LT_gx, Q_Z_gx, fun h0_ => absurd ((hoff 10 (by kernel_rfl)).symm.trans h0_) (by decide), Q_X9_⟩
    refine steps_cons ?_ ?_
    · rintro b a w' ⟨gx, m9_, ha, Q_KB_, Q_GE_gx, Q_LT_gx, Q_Z_gx, Q_F_gx, Q_X9_⟩ hb_ hon hoff
      refine ⟨_, rfl, fun K hK => ?_⟩
      have e3 : a.tmps[3]? = some (.pointer (some ⟨w.heap.size + 1, 0, none⟩)) := by rw [ha]; exact (putSel_off rfl).trans rfl
      replace ha := Aside0.mk ha
      have KB_ := Aside0.mk Q_KB_
      refine value_ (w1 := w') (v := .pointer (some ⟨w.heap.size + 1, 6, none⟩)) (by rfl) rfl ?_ ?_
      · go_simp
        (try simp only [i64_w])
        try rfl
      refine hK.out _ _ ⟨gx, m9_, (by rw [ha.out]; exact putSel_upk 1 hb_ rfl rfl rfl), Q_KB_, Q_GE_gx, Q_LT_gx, Q_Z_gx, fun h0_ => absurd ((hoff 10 (by kernel_rfl)).symm.trans h0_) (by decide), Q_X9_⟩
    refine steps_cons ?_ ?_
    · rintro b a w' ⟨gx, m9_, ha, Q_KB_, Q_GE_gx, Q_LT_gx, Q_Z_gx, Q_F_gx, Q_X9_⟩ hb_ hon hoff
      refine ⟨_, rfl, fun K hK => ?_⟩
      have e65 : a.tmps[65]? = some (.pointer (some ⟨w.heap.size + 1, 6, none⟩)) := by rw [ha]; exact putSel_on (e := (1, 65, .pointer (some ⟨w.heap.size + 1, 6, none⟩))) 1 rfl rfl (hon 1 (by kernel_rfl)) rfl
      replace ha := Aside0.mk ha
      have KB_ := Aside0.mk Q_KB_
      have c0_ : w'.cell? ⟨w.heap.size + 1, 6, none⟩ = some (.slice (some ⟨g, 0, none⟩) 1 kc) := (blk_cell (blk_below H1.out KB_.out) 6).trans rfl
      refine value_ (w1 := w') (v := .slice (some ⟨g, 0, none⟩) 1 kc) (by rfl) rfl ?_ ?_
      · go_simp
        (try simp only [i64_w])
        try rfl
      refine hK.out _ _ ⟨gx, m9_, (by rw [ha.out]; exact putSel_upk 2 hb_ rfl rfl rfl), Q_KB_, Q_GE_gx, Q_LT_gx, Q_Z_gx, fun h0_ => absurd ((hoff 10 (by kernel_rfl)).symm.trans h0_) (by decide), Q_X9_⟩
    refine steps_cons ?_ ?_
    · rintro b a w' ⟨gx, m9_, ha, Q_KB_, Q_GE_gx, Q_LT_gx, Q_Z_gx, Q_F_gx, Q_X9_⟩ hb_ hon hoff
      refine ⟨_, rfl, fun K hK => ?_⟩
      have e66 : a.tmps[66]? = some (.slice (some ⟨g, 0, none⟩) 1 kc) := by rw [ha]; exact putSel_on (e := (2, 66, .slice (some ⟨g, 0, none⟩) 1 kc)) 2 rfl rfl (hon 2 (by kernel_rfl)) rfl
      replace ha := Aside0.mk ha
      have KB_ := Aside0.mk Q_KB_
      refine value_ (w1 := w') (v := .pointer (some ⟨g, 0, none⟩)) (by rfl) rfl ?_ ?_
      · go_simp
        (try simp only [i64_w])
        try rfl
      refine hK.out _ _ ⟨gx, m9_, (by rw [ha.out]; exact putSel_upk 3 hb_ rfl rfl rfl), Q_KB_, Q_GE_gx, Q_LT_gx, Q_Z_gx, fun h0_ => absurd ((hoff 10 (by kernel_rfl)).symm.trans h0_) (by decide), Q_X9_⟩
    refine steps_cons ?_ ?_
    · rintro b a w' ⟨gx, m9_, ha, Q_KB_, Q_GE_gx, Q_LT_gx, Q_Z_gx, Q_F_gx, Q_X9_⟩ hb_ hon hoff
      refine ⟨_, rfl, fun K hK => ?_⟩
      have e67 : a.tmps[67]? = some (.pointer (some ⟨g, 0, none⟩)) := by rw [ha]; exact putSel_on (e := (3, 67, .pointer (some ⟨g, 0, none⟩))) 3 rfl rfl (hon 3 (by kernel_rfl)) rfl
      replace ha := Aside0.mk ha
      have KB_ := Aside0.mk Q_KB_
      have c0_ : w'.cell? ⟨g, 0, none⟩ = some (.int .i64 o0) := (blk_cell (blk_below HK.out KB_.out) 0).trans rfl
      have c1_ : w'.cell? ⟨g, 1, none⟩ = some (.bool b0) := (blk_cell (blk_below HK.out KB_.out) 1).trans rfl
      have c2_ : w'.cell? ⟨g, 2, none⟩ = some (.int .i64 m0) := (blk_cell (blk_below HK.out KB_.out) 2).trans rfl
      have c3_ : w'.cell? ⟨g, 3, none⟩ = some (.string s0) := (blk_cell (blk_below HK.out KB_.out) 3).trans rfl
      have c4_ : w'.cell? ⟨g, 4, none⟩ = some (.string t0) := (blk_cell (blk_below HK.out KB_.out) 4).trans rfl
      have c5_ : w'.cell? ⟨g, 5, none⟩ = some (.string i0) := (blk_cell (blk_below HK.out KB_.out) 5).trans rfl
      have c6_ : w'.cell? ⟨g, 6, none⟩ = some (.slice A0 n0 c0) := (blk_cell (blk_below HK.out KB_.out) 6).trans rfl
      refine value_ (w1 := w') (v := .agg #[.int .i64 o0, .bool b0, .int .i64 m0, .string s0, .string t0, .string i0, .slice A0 n0 c0]) (by rfl) rfl ?_ ?_
      · go_simp
        (try simp only [i64_w])
        try rfl
      refine hK.out _ _ ⟨gx, m9_, (by rw [ha.out]; exact putSel_upk 4 hb_ rfl rfl rfl), Q_KB_, Q_GE_gx, Q_LT_gx, Q_Z_gx, fun h0_ => absurd ((hoff 10 (by kernel_rfl)).symm.trans h0_) (by decide), Q_X9_⟩
    refine steps_cons ?_ ?_
    · rintro b a w' ⟨gx, m9_, ha, Q_KB_, Q_GE_gx, Q_LT_gx, Q_Z_gx, Q_F_gx, Q_X9_⟩ hb_ hon hoff
      refine ⟨_, rfl, fun K hK => ?_⟩
      have e64 : a.tmps[64]? = some (.agg #[.slice A n c, .string p0, .string p1, .string p2, .string p3, .string p4, .string p5]) := by rw [ha]; exact putSel_on (e := (0, 64, .agg #[.slice A n c, .string p0, .string p1, .string p2, .string p3, .string p4, .string p5])) 0 rfl rfl (hon 0 (by kernel_rfl)) rfl
      have e68 : a.tmps[68]? = some (.agg #[.int .i64 o0, .bool b0, .int .i64 m0, .string s0, .string t0, .string i0, .slice A0 n0 c0]) := by rw [ha]; exact putSel_on (e := (4, 68, .agg #[.int .i64 o0, .bool b0, .int .i64 m0, .string s0, .string t0, .string i0, .slice A0 n0 c0])) 4 rfl rfl (hon 4 (by kernel_rfl)) rfl
      replace ha := Aside0.mk ha
      have KB_ := Aside0.mk Q_KB_
      refine goes_ Try.func71 (by kernel_rfl) rfl #[.agg #[.slice A n c, .string p0, .string p1, .string p2, .string p3, .string p4, .string p5], .agg #[.int .i64 o0, .bool b0, .int .i64 m0, .string s0, .string t0, .string i0, .slice A0 n0 c0]] (by rfl) rfl rfl (by first | (simp only [List.map_toArray, List.map_cons, List.map_nil, Act.eval, Array.getD_eq_getD_getElem?, Option.getD_some, e64, e68]; done) | (simp only [List.map_toArray, List.map_cons, List.map_nil, Act.eval, Array.getD_eq_getD_getElem?, Option.getD_some, e64, e68]; rfl)) ?_
      refine (HH0.out _ (below_step HX.out.be KB_.out)).mono ?_
      rintro e w2 ⟨rfl, hb⟩
      refine ⟨_, rfl, ?_⟩
      refine hK.out _ _ ⟨gx, m9_, (by rw [ha.out]; exact putSel_upk 5 hb_ rfl rfl rfl), below_step KB_.out hb, Q_GE_gx, fun h0_ => Nat.lt_of_lt_of_le (Q_LT_gx h0_) hb.size, fun h0_ h1_ => blk_below (Q_Z_gx h0_ h1_) hb, fun h0_ => absurd ((hoff 10 (by kernel_rfl)).symm.trans h0_) (by decide), Q_X9_⟩
    refine steps_cons ?_ ?_
    · rintro b a w' ⟨gx, m9_, ha, Q_KB_, Q_GE_gx, Q_LT_gx, Q_Z_gx, Q_F_gx, Q_X9_⟩ hb_ hon hoff
      refine ⟨_, rfl, fun K hK => ?_⟩
      have e69 : a.tmps[69]? = some (.tuple #[.agg #[.int .i64 y.k, .bool y.b, .int .i64 y.m, .string y.s, .string y.t, .string y.i, .slice none 0 0], .int .i64 0]) := by rw [ha]; exact putSel_on (e := (5, 69, .tuple #[.agg #[.int .i64 y.k, .bool y.b, .int .i64 y.m, .string y.s, .string y.t, .string y.i, .slice none 0 0], .int .i64 0])) 5 rfl rfl (hon 5 (by kernel_rfl)) rfl
      replace ha := Aside0.mk ha
      have KB_ := Aside0.mk Q_KB_
      refine value_ (w1 := w') (v := .tuple #[.agg #[.int .i64 y.k, .bool y.b, .int .i64 y.m, .string y.s, .string y.t, .string y.i, .slice none 0 0], .int .i64 0]) (by rfl) rfl ?_ ?_
      · go_simp
        (try simp only [i64_w])
        try rfl
      refine hK.out _ _ ⟨gx, m9_, (by rw [ha.out]; exact putSel_upk 6 hb_ rfl rfl rfl), Q_KB_, Q_GE_gx, Q_LT_gx, Q_Z_gx, fun h0_ => absurd ((hoff 10 (by kernel_rfl)).symm.trans h0_) (by decide), Q_X9_⟩
    refine steps_cons ?_ ?_
    · rintro b a w' ⟨gx, m9_, ha, Q_KB_, Q_GE_gx, Q_LT_gx, Q_Z_gx, Q_F_gx, Q_X9_⟩ hb_ hon hoff
      refine ⟨_, rfl, fun K hK => ?_⟩
      have e63 : a.tmps[63]? = some (.tuple #[.agg #[.int .i64 y.k, .bool y.b, .int .i64 y.m, .string y.s, .string y.t, .string y.i, .slice none 0 0], .int .i64 0]) := by rw [ha]; exact putSel_on (e := (6, 63, .tuple #[.agg #[.int .i64 y.k, .bool y.b, .int .i64 y.m, .string y.s, .string y.t, .string y.i, .slice none 0 0], .int .i64 0])) 6 rfl rfl (hon 6 (by kernel_rfl)) rfl
      replace ha := Aside0.mk ha
      have KB_ := Aside0.mk Q_KB_
      refine value_ (w1 := w') (v := .agg #[.int .i64 y.k, .bool y.b, .int .i64 y.m, .string y.s, .string y.t, .string y.i, .slice none 0 0]) (by rfl) rfl ?_ ?_
      · go_simp
        (try simp only [i64_w])
        try rfl
      refine hK.out _ _ ⟨gx, m9_, (by rw [ha.out]; exact putSel_upk 7 hb_ rfl rfl rfl), Q_KB_, Q_GE_gx, Q_LT_gx, Q_Z_gx, fun h0_ => absurd ((hoff 10 (by kernel_rfl)).symm.trans h0_) (by decide), Q_X9_⟩
    refine steps_cons ?_ ?_
    · rintro b a w' ⟨gx, m9_, ha, Q_KB_, Q_GE_gx, Q_LT_gx, Q_Z_gx, Q_F_gx, Q_X9_⟩ hb_ hon hoff
      refine ⟨_, rfl, fun K hK => ?_⟩
      have e63 : a.tmps[63]? = some (.tuple #[.agg #[.int .i64 y.k, .bool y.b, .int .i64 y.m, .string y.s, .string y.t, .string y.i, .slice none 0 0], .int .i64 0]) := by rw [ha]; exact putSel_on (e := (6, 63, .tuple #[.agg #[.int .i64 y.k, .bool y.b, .int .i64 y.m, .string y.s, .string y.t, .string y.i, .slice none 0 0], .int .i64 0])) 6 rfl rfl (hon 6 (by kernel_rfl)) rfl
      replace ha := Aside0.mk ha
      have KB_ := Aside0.mk Q_KB_
      refine value_ (w1 := w') (v := .int .i64 0) (by rfl) rfl ?_ ?_
      · go_simp
        (try simp only [i64_w])
        try rfl
      refine hK.out _ _ ⟨gx, m9_, (by rw [ha.out]; exact putSel_upk 8 hb_ rfl rfl rfl), Q_KB_, Q_GE_gx, Q_LT_gx, Q_Z_gx, Q_F_gx, Q_X9_⟩
    refine steps_cons ?_ ?_
    · rintro b a w' ⟨gx, m9_, ha, Q_KB_, Q_GE_gx, Q_LT_gx, Q_Z_gx, Q_F_gx, Q_X9_⟩ hb_ hon hoff
      refine ⟨_, rfl, fun K hK => ?_⟩
      replace ha := Aside0.mk ha
      have KB_ := Aside0.mk Q_KB_
      refine value_ (w1 := w'.alloc (.cells #[.int .i64 0, .bool false, .int .i64 0, .string ⟨#[]⟩, .string ⟨#[]⟩, .string ⟨#[]⟩, .slice none 0 0] 55)) (v := .pointer (some ⟨w'.heap.size, 0, none⟩)) (by rfl) rfl ?_ ?_
      · first | (go_simp; done) | (go_simp; rfl) | (go_simp; constructor <;> rfl)
      have hbox : (w'.alloc (.cells #[.int .i64 0, .bool false, .int .i64 0, .string ⟨#[]⟩, .string ⟨#[]⟩, .string ⟨#[]⟩, .slice none 0 0] 55)).heap[w'.heap.size]? = some (.cells #[.int .i64 0, .bool false, .int .i64 0, .string ⟨#[]⟩, .string ⟨#[]⟩, .string ⟨#[]⟩, .slice none 0 0] 55 (0, 0)) := blk_new _ _
      have hb : Below w'.heap.size w' (w'.alloc (.cells #[.int .i64 0, .bool false, .int .i64 0, .string ⟨#[]⟩, .string ⟨#[]⟩, .string ⟨#[]⟩, .slice none 0 0] 55)) := below_alloc (Below.refl _ _) _
      generalize w'.alloc (.cells #[.int .i64 0, .bool false, .int .i64 0, .string ⟨#[]⟩, .string ⟨#[]⟩, .string ⟨#[]⟩, .slice none 0 0] 55) = w2 at hbox hb ⊢
      have hle := (KB_.out).size
      generalize hg_ : w'.heap.size = gxn at hbox hle ⊢
      refine hK.out _ _ ⟨gxn, (.pointer (some ⟨gxn, 0, none⟩)), (by rw [ha.out]; exact putSel_upk 9 hb_ rfl rfl rfl), below_step KB_.out hb, fun _ => hle, fun _ => blk_lt hbox, fun _ _ => hbox, fun h0_ => absurd ((hoff 10 (by kernel_rfl)).symm.trans h0_) (by decide), fun _ => rfl⟩
    refine steps_cons ?_ ?_
    · rintro b a w' ⟨gx, m9_, ha, Q_KB_, Q_GE_gx, Q_LT_gx, Q_Z_gx, Q_F_gx, Q_X9_⟩ hb_ hon hoff
      refine ⟨_, rfl, fun K hK => ?_⟩
      have e6 : a.tmps[6]? = some (m9_) := by rw [ha]; exact putSel_on (e := (9, 6, m9_)) 9 rfl rfl (hon 9 (by kernel_rfl)) rfl
      rw [Q_X9_ (hon 9 (by kernel_rfl))] at e6
      have e70 : a.tmps[70]? = some (.agg #[.int .i64 y.k, .bool y.b, .int .i64 y.m, .string y.s, .string y.t, .string y.i, .slice none 0 0]) := by rw [ha]; exact putSel_on (e := (7, 70, .agg #[.int .i64 y.k, .bool y.b, .int .i64 y.m, .string y.s, .string y.t, .string y.i, .slice none 0 0])) 7 rfl rfl (hon 7 (by kernel_rfl)) rfl
      replace ha := Aside0.mk ha
      have KB_ := Aside0.mk Q_KB_
      have GE_gx := Aside0.mk (Q_GE_gx (hon 9 (by kernel_rfl)))
      have LT_gx := Aside0.mk (Q_LT_gx (hon 9 (by kernel_rfl)))
      have Z_gx := Aside0.mk (Q_Z_gx (hon 9 (by kernel_rfl)) hb_)
      have y0 : w'.cell? ⟨gx, 0, none⟩ = some (.int .i64 0) := (blk_cell Z_gx.out 0).trans rfl
      have f0 := blk_frozen Z_gx.out 0
      have y1 : w'.cell? ⟨gx, 1, none⟩ = some (.bool false) := (blk_cell Z_gx.out 1).trans rfl
      have f1 := blk_frozen Z_gx.out 1
      have y2 : w'.cell? ⟨gx, 2, none⟩ = some (.int .i64 0) := (blk_cell Z_gx.out 2).trans rfl
      have f2 := blk_frozen Z_gx.out 2
      have y3 : w'.cell? ⟨gx, 3, none⟩ = some (.string ⟨#[]⟩) := (blk_cell Z_gx.out 3).trans rfl
      have f3 := blk_frozen Z_gx.out 3
      have y4 : w'.cell? ⟨gx, 4, none⟩ = some (.string ⟨#[]⟩) := (blk_cell Z_gx.out 4).trans rfl
      have f4 := blk_frozen Z_gx.out 4
      have y5 : w'.cell? ⟨gx, 5, none⟩ = some (.string ⟨#[]⟩) := (blk_cell Z_gx.out 5).trans rfl
      have f5 := blk_frozen Z_gx.out 5
      have y6 : w'.cell? ⟨gx, 6, none⟩ = some (.slice none 0 0) := (blk_cell Z_gx.out 6).trans rfl
      have f6 := blk_frozen Z_gx.out 6
      refine skip_ (w1 := ?_) (by rfl) rfl ?_ ?_
      rotate_left
      · go_simp
        rfl
      refine hK.out _ _ ⟨gx, m9_, (by rw [ha.out]; exact putSel_none (v := undef) rfl), below_set (below_set (below_set (below_set (below_set (below_set (below_set (KB_.out) GE_gx.out) GE_gx.out) GE_gx.out) GE_gx.out) GE_gx.out) GE_gx.out) GE_gx.out, Q_GE_gx, fun _ => lt_set (lt_set (lt_set (lt_set (lt_set (lt_set (lt_set (LT_gx.out))))))), fun _ h1_ => absurd ((up_self b 10).symm.trans h1_) (by decide), fun _ => blk_put (cs := #[.int .i64 y.k, .bool y.b, .int .i64 y.m, .string y.s, .string y.t, .string y.i, .slice none 0 0]) (cs' := #[.int .i64 y.k, .bool y.b, .int .i64 y.m, .string y.s, .string y.t, .string y.i, .slice none 0 0]) (blk_put (cs := #[.int .i64 y.k, .bool y.b, .int .i64 y.m, .string y.s, .string y.t, .string ⟨#[]⟩, .slice none 0 0]) (cs' := #[.int .i64 y.k, .bool y.b, .int .i64 y.m, .string y.s, .string y.t, .string y.i, .slice none 0 0]) (blk_put (cs := #[.int .i64 y.k, .bool y.b, .int .i64 y.m, .string y.s, .string ⟨#[]⟩, .string ⟨#[]⟩, .slice none 0 0]) (cs' := #[.int .i64 y.k, .bool y.b, .int .i64 y.m, .string y.s, .string y.t, .string ⟨#[]⟩, .slice none 0 0]) (blk_put (cs := #[.int .i64 y.k, .bool y.b, .int .i64 y.m, .string ⟨#[]⟩, .string ⟨#[]⟩, .string ⟨#[]⟩, .slice none 0 0]) (cs' := #[.int .i64 y.k, .bool y.b, .int .i64 y.m, .string y.s, .string ⟨#[]⟩, .string ⟨#[]⟩, .slice none 0 0]) (blk_put (cs := #[.int .i64 y.k, .bool y.b, .int .i64 0, .string ⟨#[]⟩, .string ⟨#[]⟩, .string ⟨#[]⟩, .slice none 0 0]) (cs' := #[.int .i64 y.k, .bool y.b, .int .i64 y.m, .string ⟨#[]⟩, .string ⟨#[]⟩, .string ⟨#[]⟩, .slice none 0 0]) (blk_put (cs := #[.int .i64 y.k, .bool false, .int .i64 0, .string ⟨#[]⟩, .string ⟨#[]⟩, .string ⟨#[]⟩, .slice none 0 0]) (cs' := #[.int .i64 y.k, .bool y.b, .int .i64 0, .string ⟨#[]⟩, .string ⟨#[]⟩, .string ⟨#[]⟩, .slice none 0 0]) (blk_put (cs := #[.int .i64 0, .bool false, .int .i64 0, .string ⟨#[]⟩, .string ⟨#[]⟩, .string ⟨#[]⟩, .slice none 0 0]) (cs' := #[.int .i64 y.k, .bool false, .int .i64 0, .string ⟨#[]⟩, .string ⟨#[]⟩, .string ⟨#[]⟩, .slice none 0 0]) (Z_gx.out) 0 _ rfl) 1 _ rfl) 2 _ rfl) 3 _ rfl) 4 _ rfl) 5 _ rfl) 6 _ rfl, Q_X9_⟩
    refine steps_cons ?_ ?_
    · rintro b a w' ⟨gx, m9_, ha, Q_KB_, Q_GE_gx, Q_LT_gx, Q_Z_gx, Q_F_gx, Q_X9_⟩ hb_ hon hoff
      refine ⟨_, rfl, fun K hK => ?_⟩
      have e71 : a.tmps[71]? = some (.int .i64 0) := by rw [ha]; exact putSel_on (e := (8, 71, .int .i64 0)) 8 rfl rfl (hon 8 (by kernel_rfl)) rfl
      replace ha := Aside0.mk ha
      have KB_ := Aside0.mk Q_KB_
      have GE_gx := Aside0.mk (Q_GE_gx (hon 9 (by kernel_rfl)))
      have LT_gx := Aside0.mk (Q_LT_gx (hon 9 (by kernel_rfl)))
      have F_gx := Aside0.mk (Q_F_gx (hon 10 (by kernel_rfl)))
      refine value_ (w1 := w') (v := .int .i64 0) (by rfl) rfl ?_ ?_
      · go_simp
        (try simp only [i64_w])
        try rfl
      refine hK.out _ _ ⟨gx, m9_, (by rw [ha.out]; exact putSel_upk 10 hb_ rfl rfl rfl), Q_KB_, Q_GE_gx, Q_LT_gx, fun _ h1_ => absurd ((hon 10 (by kernel_rfl)).symm.trans h1_) (by decide), Q_F_gx, Q_X9_⟩
    exact steps_nil
  rintro b a w' hall ⟨gx, m9_, ha, Q_KB_, Q_GE_gx, Q_LT_gx, Q_Z_gx, Q_F_gx, Q_X9_⟩
  clear KB_
  have hb0_ := hall 0 (by kernel_rfl)
  have hb1_ := hall 1 (by kernel_rfl)
  have hb2_ := hall 2 (by kernel_rfl)
  have hb3_ := hall 3 (by kernel_rfl)
  have hb4_ := hall 4 (by kernel_rfl)
  have hb5_ := hall 5 (by kernel_rfl)
  have hb6_ := hall 6 (by kernel_rfl)
  have hb7_ := hall 7 (by kernel_rfl)
  have hb8_ := hall 8 (by kernel_rfl)
  have hb9_ := hall 9 (by kernel_rfl)
  have hb10_ := hall 10 (by kernel_rfl)
  have hb11_ := hall 11 (by kernel_rfl)
  subst ha
  obtain rfl := Q_X9_ hb9_
  simp only [putSel, hb0_, hb1_, hb2_, hb3_, hb4_, hb5_, hb6_, hb7_, hb8_, hb9_, hb10_, hb11_, if_true, Act.put, List.setIfInBounds_toArray, List.set_cons_zero, List.set_cons_succ]
  have KB_ := Aside0.mk Q_KB_
  clear Q_KB_
  have GE_gx := Aside0.mk (Q_GE_gx hb9_)
  clear Q_GE_gx
  have LT_gx := Aside0.mk (Q_LT_gx hb9_)
  clear Q_LT_gx
  clear Q_Z_gx
  have F_gx := Aside0.mk (Q_F_gx hb10_)
  clear Q_F_gx
  clear hall hb0_ hb1_ hb2_ hb3_ hb4_ hb5_ hb6_ hb7_ hb8_ hb9_ hb10_ hb11_
  have hle : w.heap.size + 3 ≤ gx := by have := GE_gx.out; have := HX.out.le; omega
  replace HX := Aside0.mk (HX.out.step KB_.out)
  have HV := F_gx
  clear F_gx KB_ GE_gx LT_gx H0 H1 HK
  generalize w' = w4 at HX HV ⊢
  obtain ⟨x0, x1, x2, x3, x4, x5, x6⟩ := cells7 HV.out
  obtain ⟨y0, y1, y2, y3, y4, y5, y6⟩ := cells7 HX.out.b1
  obtain ⟨z0, z1, z2, z3, z4, z5, z6⟩ := cells7 HX.out.b0
  go_wp2_with (go_at_call 95; refine (HS.out _ HX.out.be).mono ?_; rintro e w5 ⟨K, rfl, hV, hb⟩; have HVr := Aside0.mk hV; have HX2 := Aside0.mk (HX.out.step hb); obtain ⟨A8, c8, rfl⟩ := Kd.V_slice hV; clear hV hb x0 x1 x2 x3 x4 x5 x6 y0 y1 y2 y3 y4 y5 y6 z0 z1 z2 z3 z4 z5 z6; obtain ⟨q0, q1, q2, q3, q4, q5, q6⟩ := cells7 HX2.out.b2; obtain ⟨f0, f1, f2, f3, f4, f5, f6⟩ := froz7 HX2.out.b2; have hsz := blk_lt HX2.out.b2)
  (try simp only [Exit.inBlock, Exit.then])
  refine bodyPost_ret (results_row_tmp rfl _ _ (w.heap.size + 2) 55 _ (0, 0) _ rfl (set7_blk HX2.out.b2 _ _ _ _ _ _ _) Try.underlying55 rfl (by kernel_rfl)) rfl ?_
  have hz1 := blk_lt HX.out.b2
  exact ⟨_, rfl, V_fin HVr.out (by omega) (by omega) _ _ _ _ _ _ _, set7_below HX2.out.be (by omega) _ _ _ _ _ _ _⟩
set_option maxRecDepth 100000 in
set_option maxHeartbeats 16000000 in
theorem Expr_g (A : Option Addr) (n c : Nat) (p0 p1 p2 p3 p4 p5 : ByteArray) (o : Int) (b : Bool) (m : Int) (s t i : ByteArray) (A0 : Option Addr) (n0 c0 : Nat) (r : Vl) (er : Int) (w : World) (h0 : ∀ W, Below w.heap.size w W → Calls Try.prog 71 #[.agg #[.slice A n c, .string p0, .string p1, .string p2, .string p3, .string p4, .string p5], .agg #[.int .i64 o, .bool b, .int .i64 m, .string s, .string t, .string i, .slice A0 n0 c0]] W (Gv W r er)) : Calls Try.prog 43 #[.slice A n c, .agg #[.string p0, .string p1, .string p2, .string p3, .string p4, .string p5], .agg #[.int .i64 o, .bool b, .int .i64 m, .string s, .string t, .string i, .slice A0 n0 c0]] w (Gv w r er) := by
  have HC := Aside0.mk h0
  clear h0
  go_enter Try.func43, Try.ntmps43
  go_wp2_with (go_at_call 71; refine (HC.out _ ?hB).mono ?_; (case hB => repeat (first | exact Below.refl _ _ | apply below_alloc)); rintro e w1 ⟨K, rfl, hV, hb⟩; have HV := Aside0.mk hV; obtain ⟨A8, c8, rfl⟩ := Kd.V_slice hV; have HB : Aside0 (Below w.heap.size w w1) := ⟨below_step (by repeat (first | exact Below.refl _ _ | apply below_alloc)) hb⟩; have HZ : Aside0 (w1.heap[w.heap.size + 2]? = some zO) := ⟨by refine blk_below ?_ hb; exact bn3 _ _ _ _⟩; clear hV hb; obtain ⟨q0, q1, q2, q3, q4, q5, q6⟩ := cells7 HZ.out; obtain ⟨f0, f1, f2, f3, f4, f5, f6⟩ := froz7 HZ.out)
  (try simp only [Exit.inBlock, Exit.then])
  refine bodyPost_ret (results_row_tmp rfl _ _ (w.heap.size + 2) 55 _ (0, 0) _ rfl (set7_blk HZ.out _ _ _ _ _ _ _) Try.underlying55 rfl (by kernel_rfl)) rfl ?_
  exact ⟨_, rfl, V_fin HV.out (by simp) (by simp; omega) _ _ _ _ _ _ _, set7_below HB.out (by omega) _ _ _ _ _ _ _⟩
end Go.Proofs.Ytelibndkkokadaa.EV
