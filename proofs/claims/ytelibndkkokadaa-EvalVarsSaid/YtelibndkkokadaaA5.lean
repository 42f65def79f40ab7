import Derived.Test.YtelibndkkokadaaGB0
import Derived.Test.YtelibndkkokadaaA4
import Derived.Deep.RegionWith
namespace Go.Proofs.Ytelibndkkokadaa.GA
open Go.RowKit Go.Proofs.YtelibndkkokadaaW.PrintWords Go.Proofs.YtelibndkkokadaaW.PrintLast Go.Proofs.Ytelibndkkokadaa.HandV Go.Proofs.YtelibndkkokadaaW.PrintMore
open Go.Proofs.Ytelibndkkokadaa.GB
attribute [local go_sem] max2_int min2_int max_two min_two max_three min_three max_four min_four   -- for this text's walks alone
set_option linter.unusedVariables false
set_option linter.unusedSimpArgs false
-- IMPORT .A4
-- IMPORT Derived.Deep.RegionWith
theorem one_C {W : World} {g : Nat} {u : U} {e : Nat} (h : W.heap[g]? = some (.cells #[.string u.f0, .string u.f1] e (0, 0))) : k28.C W (some ⟨g, 0, none⟩) [u].length [u] := by
  refine ⟨rfl, by simp, fun _ => ⟨⟨g, 0, none⟩, rfl, fun j x hj => ?_⟩⟩
  cases j with
  | zero =>
    obtain rfl : u = x := by simpa using hj
    refine ⟨[.string u.f0, .string u.f1], rfl, k28_mk W u, fun i v hv => ?_⟩
    rw [show (0 * k28.sz + i) = i by omega, add_plain]
    exact GT.hcellT h i v (by simpa using hv)
  | succ j => simp at hj
def inF (l : List En) (u a : U) : Bool := decide (a ∈ climbF l [u])
set_option maxRecDepth 100000 in
set_option maxHeartbeats 8000000 in
theorem in_calls0 (l : List En) (hl : okL l = true) (u a : U) (hu : okU u = true) (ha : okU a = true) (A : Option Addr) (c : Nat) (w : World) (hc : l.length ≤ c) (hC : k38.C w A l.length l) :
    Calls Try.prog 16 #[.slice A l.length c, .agg #[.string u.f0, .string u.f1], .agg #[.string a.f0, .string a.f1]] w fun e w' => e = .returned (.bool (inF l u a)) ∧ Below w.heap.size w w' := by
  have HC := Aside0.mk hC
  have Hc := Aside0.mk hc
  have HK := Aside0.mk (climb_calls l hl [u] (by simpa using hu) (by simp) A c)
  unfold inF
  have hone : [u].length = 1 := rfl
  have Ha := Aside0.mk ha
  generalize climbF l [u] = R at HK ⊢
  clear hC hc hu ha hl
  go_enter Try.func16, Try.ntmps16
  go_wp2
  have x0 : ((w.alloc (Obj.cells #[Value.string u.f0, Value.string u.f1] 28)).alloc (Obj.cells #[Value.string a.f0, Value.string a.f1] 28)).cell? ⟨w.heap.size, 0, none⟩ = some (.string u.f0) := by go_simp
  have x1 : ((w.alloc (Obj.cells #[Value.string u.f0, Value.string u.f1] 28)).alloc (Obj.cells #[Value.string a.f0, Value.string a.f1] 28)).cell? ⟨w.heap.size, 1, none⟩ = some (.string u.f1) := by go_simp
  have x2 : ((w.alloc (Obj.cells #[Value.string u.f0, Value.string u.f1] 28)).alloc (Obj.cells #[Value.string a.f0, Value.string a.f1] 28)).cell? ⟨w.heap.size + 1, 0, none⟩ = some (.string a.f0) := by go_simp
  have x3 : ((w.alloc (Obj.cells #[Value.string u.f0, Value.string u.f1] 28)).alloc (Obj.cells #[Value.string a.f0, Value.string a.f1] 28)).cell? ⟨w.heap.size + 1, 1, none⟩ = some (.string a.f1) := by go_simp
  have xb : Below w.heap.size w ((w.alloc (Obj.cells #[Value.string u.f0, Value.string u.f1] 28)).alloc (Obj.cells #[Value.string a.f0, Value.string a.f1] 28)) := by repeat (first | exact Below.refl _ _ | apply below_alloc)
  have HB := Aside0.mk xb
  clear xb
  have xs : w.heap.size + 2 = ((w.alloc (Obj.cells #[Value.string u.f0, Value.string u.f1] 28)).alloc (Obj.cells #[Value.string a.f0, Value.string a.f1] 28)).heap.size := by simp
  generalize (w.alloc (Obj.cells #[Value.string u.f0, Value.string u.f1] 28)).alloc (Obj.cells #[Value.string a.f0, Value.string a.f1] 28) = V at x0 x1 x2 x3 xs HB ⊢
  have HY2 : Aside0 (∀ W, Below V.heap.size V W → W.cell? ⟨w.heap.size + 1, 0, none⟩ = some (.string a.f0)) := ⟨fun W hW => (hW.cell (by simp; omega)).trans x2⟩
  have HY3 : Aside0 (∀ W, Below V.heap.size V W → W.cell? ⟨w.heap.size + 1, 1, none⟩ = some (.string a.f1)) := ⟨fun W hW => (hW.cell (by simp; omega)).trans x3⟩
  have HK1 : Aside0 (∀ W, Below V.heap.size V W → W.heap[V.heap.size]? = some (.cells #[.string u.f0, .string u.f1] 28 (0, 0)) → Calls Try.prog 47 #[.slice A l.length c, .slice (some ⟨V.heap.size, 0, none⟩) 1 1] W fun e w' => ∃ b n, e = .returned (.map (some b)) ∧ w'.ownsMap Try.prog 28 (plainElem Try.prog 4) b n (setD R) ∧ (∀ x ∈ R, okU x = true) ∧ Below V.heap.size V w') := ⟨fun W hW hX => (HK.out (some ⟨V.heap.size, 0, none⟩) 1 W Hc.out (Kd.C_below HC.out (below_step HB.out hW)) (by simp) (one_C hX)).mono fun e w' ⟨b, n, he, _, _, hO, hok, hb⟩ => ⟨b, n, he, hO, hok, below_step hW hb⟩⟩
  have HBB : Aside0 (∀ W, Below V.heap.size V W → Below w.heap.size w W) := ⟨fun W hW => below_step HB.out hW⟩
  have z2 : ∀ o, (V.alloc o).cell? ⟨w.heap.size + 1, 0, none⟩ = some (.string a.f0) := fun o => HY2.out _ (below_alloc (Below.refl _ _) o)
  have z3 : ∀ o, (V.alloc o).cell? ⟨w.heap.size + 1, 1, none⟩ = some (.string a.f1) := fun o => HY3.out _ (below_alloc (Below.refl _ _) o)
  clear HB HC Hc HK
  go_region_with (first | (go_at_call 47; refine (HK1.out _ ?hA ?hX).mono ?_; (case hA => repeat (first | exact Below.refl _ _ | apply below_alloc | apply below_drew1)); (case hX => first | exact blk_new _ _ | (show (World.drew _).heap[_]? = _; exact blk_new _ _)); rintro e w1 ⟨b, n, rfl, hO, hok, hB⟩; have HB1 := Aside0.mk (HBB.out w1 hB); have y2 := HY2.out w1 hB; have y3 := HY3.out w1 hB; have y4 := look_run hO hok a Ha.out; clear hO hok hB))
  all_goals (go_wp2; go_ret; exact ⟨rfl, HB1.out⟩)
end Go.Proofs.Ytelibndkkokadaa.GA
