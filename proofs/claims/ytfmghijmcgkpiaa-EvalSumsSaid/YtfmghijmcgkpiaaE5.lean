import Derived.Test.YtfmghijmcgkpiaaGS0
import Derived.Test.YtfmghijmcgkpiaaE4
namespace Go.Proofs.Ytfmghijmcgkpiaa.GE
open Go.RowKit Go.Proofs.YtfmghijmcgkpiaaW.PrintWords Go.Proofs.YtfmghijmcgkpiaaW.PrintLast Go.Proofs.Ytfmghijmcgkpiaa.HandV Go.Proofs.YtfmghijmcgkpiaaW.PrintMore
open Go.Proofs.Ytfmghijmcgkpiaa.GS
attribute [local go_sem] max2_int min2_int max_two min_two max_three min_three max_four min_four   -- for this text's walks alone
set_option linter.unusedVariables false
set_option linter.unusedSimpArgs false
-- IMPORT .E4
/-- What a tree comes to: a value that leads to new memory alone, and an error. -/
def Gives (w : World) (r : S31) (er : Int) (e : Ending) (w' : World) : Prop := ∃ v6 : Value, e = .returned (.tuple #[.agg #[.int .i64 r.f0, .bool r.f1, .int .i64 r.f2, .string r.f3, .string r.f4.f0, .string r.f4.f1, v6], .int .i64 er]) ∧ Kd.V k31 31 w' w.heap.size (fun k_ => w.heap.size ≤ k_) v6 r.f5 ∧ Below w.heap.size w w'
/-- What is asked of a tree, where there are no entities. -/
def ExprOk (p0 p1 p2 p3 p4 p5 : ByteArray) (x : S67) (r : S31) (er : Int) : Prop := ∀ (A : Option Addr) (c : Nat) (B : Option Addr) (kc : Nat) (W : World), x.f5.length ≤ kc → k67.C W B x.f5.length x.f5 →
  Calls Try.prog 97 #[.agg #[.slice A 0 c, .string p0, .string p1, .string p2, .string p3, .string p4, .string p5], .agg #[.int .i64 x.f0, .bool x.f1, .int .i64 x.f2, .string x.f3, .string x.f4.f0, .string x.f4.f1, .slice B x.f5.length kc]] W (Gives W r er)
/-- The truth of a tree. -/
def askedF (r : S31) (er : Int) : Bool × Int := if er ≠ 0 then (false, er) else if r.f0 ≠ 1 then (false, 16) else (r.f1, 0)
theorem ta_truth1 (x : Value) (w : World) : Sem.run Try.prog (Instr.typeAssert (.iface 226 x) 20 226 false) w = .ok x w := by simp [Instr.typeAssert, go_sem]
set_option maxRecDepth 100000 in
set_option maxHeartbeats 16000000 in
theorem asked_err (p0 p1 p2 p3 p4 p5 : ByteArray) (x : S67) (r : S31) (er : Int) (h : ExprOk p0 p1 p2 p3 p4 p5 x r er) (her : er ≠ 0) (A : Option Addr) (c : Nat) (B : Option Addr) (kc : Nat) (w : World) (hl : x.f5.length ≤ kc) (hC : k67.C w B x.f5.length x.f5) :
    Calls Try.prog 158 #[.agg #[.slice A 0 c, .string p0, .string p1, .string p2, .string p3, .string p4, .string p5], .agg #[.int .i64 x.f0, .bool x.f1, .int .i64 x.f2, .string x.f3, .string x.f4.f0, .string x.f4.f1, .slice B x.f5.length kc]] w fun e w' => e = .returned (.tuple #[.bool (askedF r er).1, .int .i64 (askedF r er).2]) ∧ Below w.heap.size w w' := by
  have HE := Aside0.mk h
  have HL := Aside0.mk hl
  have HC := Aside0.mk hC
  clear h hl hC
  have hF : askedF r er = (false, er) := by unfold askedF; rw [if_pos her]
  rw [hF]
  have h1 : (er != 0) = true := bne_iff_ne.mpr her
  clear her hF
  go_enter Try.func158, Try.ntmps158
  go_wp2_with (first | (go_at_call 97; refine (HE.out _ _ _ _ _ HL.out (Kd.C_below HC.out (by repeat (first | exact Below.refl _ _ | apply below_alloc)))).mono ?_; rintro e w1 ⟨v6, rfl, hV, hb⟩; obtain ⟨A6, c6, rfl⟩ := Kd.V_slice hV; have HB1 : Aside0 (Below w.heap.size w w1) := ⟨below_step (by repeat (first | exact Below.refl _ _ | apply below_alloc)) hb⟩; clear hV hb))
  go_ret2
  exact ⟨rfl, by repeat (first | exact HB1.out | apply below_alloc)⟩
set_option maxRecDepth 100000 in
set_option maxHeartbeats 16000000 in
theorem asked_type (p0 p1 p2 p3 p4 p5 : ByteArray) (x : S67) (r : S31) (er : Int) (h : ExprOk p0 p1 p2 p3 p4 p5 x r er) (her : er = 0) (hk : r.f0 ≠ 1) (A : Option Addr) (c : Nat) (B : Option Addr) (kc : Nat) (w : World) (hl : x.f5.length ≤ kc) (hC : k67.C w B x.f5.length x.f5) :
    Calls Try.prog 158 #[.agg #[.slice A 0 c, .string p0, .string p1, .string p2, .string p3, .string p4, .string p5], .agg #[.int .i64 x.f0, .bool x.f1, .int .i64 x.f2, .string x.f3, .string x.f4.f0, .string x.f4.f1, .slice B x.f5.length kc]] w fun e w' => e = .returned (.tuple #[.bool (askedF r er).1, .int .i64 (askedF r er).2]) ∧ Below w.heap.size w w' := by
  have HE := Aside0.mk h
  have HL := Aside0.mk hl
  have HC := Aside0.mk hC
  clear h hl hC
  subst her
  have hF : askedF r 0 = (false, 16) := by unfold askedF; rw [if_neg (by decide), if_pos hk]
  rw [hF]
  have h1 : (r.f0 != 1) = true := bne_iff_ne.mpr hk
  clear hk hF
  go_enter Try.func158, Try.ntmps158
  go_wp2_with (first | (go_at_call 97; refine (HE.out _ _ _ _ _ HL.out (Kd.C_below HC.out (by repeat (first | exact Below.refl _ _ | apply below_alloc)))).mono ?_; rintro e w1 ⟨v6, rfl, hV, hb⟩; obtain ⟨A6, c6, rfl⟩ := Kd.V_slice hV; have HB1 : Aside0 (Below w.heap.size w w1) := ⟨below_step (by repeat (first | exact Below.refl _ _ | apply below_alloc)) hb⟩; clear hV hb))
  go_ret2
  exact ⟨rfl, by repeat (first | exact HB1.out | apply below_alloc)⟩
set_option maxRecDepth 100000 in
set_option maxHeartbeats 16000000 in
theorem asked_ok (p0 p1 p2 p3 p4 p5 : ByteArray) (x : S67) (r : S31) (er : Int) (h : ExprOk p0 p1 p2 p3 p4 p5 x r er) (her : er = 0) (hk : r.f0 = 1) (A : Option Addr) (c : Nat) (B : Option Addr) (kc : Nat) (w : World) (hl : x.f5.length ≤ kc) (hC : k67.C w B x.f5.length x.f5) :
    Calls Try.prog 158 #[.agg #[.slice A 0 c, .string p0, .string p1, .string p2, .string p3, .string p4, .string p5], .agg #[.int .i64 x.f0, .bool x.f1, .int .i64 x.f2, .string x.f3, .string x.f4.f0, .string x.f4.f1, .slice B x.f5.length kc]] w fun e w' => e = .returned (.tuple #[.bool (askedF r er).1, .int .i64 (askedF r er).2]) ∧ Below w.heap.size w w' := by
  have HE := Aside0.mk h
  have HL := Aside0.mk hl
  have HC := Aside0.mk hC
  clear h hl hC
  subst her
  have hF : askedF r 0 = (r.f1, 0) := by unfold askedF; rw [if_neg (by decide), if_neg (by simp [hk])]
  rw [hF]
  have ht := ta_truth1 (.bool r.f1)
  clear hF
  go_enter Try.func158, Try.ntmps158
  go_wp2_with (first | (go_at_call 97; refine (HE.out _ _ _ _ _ HL.out (Kd.C_below HC.out (by repeat (first | exact Below.refl _ _ | apply below_alloc)))).mono ?_; rintro e w1 ⟨v6, rfl, hV, hb⟩; obtain ⟨A6, c6, rfl⟩ := Kd.V_slice hV; have HB1 : Aside0 (Below w.heap.size w w1) := ⟨below_step (by repeat (first | exact Below.refl _ _ | apply below_alloc)) hb⟩; clear hV hb) | (go_at_call 161; refine (of_1 _ _ _ _ _ _ _ _ _).mono ?_; rintro e w2 ⟨rfl, hb⟩; have HB2 : Aside0 (Below w.heap.size w w2) := ⟨below_step (below_alloc HB1.out _) hb⟩; clear hb))
  go_ret2
  exact ⟨rfl, by repeat (first | exact HB2.out | apply below_alloc)⟩
end Go.Proofs.Ytfmghijmcgkpiaa.GE
