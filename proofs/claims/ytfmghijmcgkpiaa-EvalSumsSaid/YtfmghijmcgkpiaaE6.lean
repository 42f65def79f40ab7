import Derived.Test.YtfmghijmcgkpiaaGS0
import Derived.Test.YtfmghijmcgkpiaaE5
import Derived.Outline
namespace Go.Proofs.Ytfmghijmcgkpiaa.GE
open Go.RowKit Go.Proofs.YtfmghijmcgkpiaaW.PrintWords Go.Proofs.YtfmghijmcgkpiaaW.PrintLast Go.Proofs.Ytfmghijmcgkpiaa.HandV Go.Proofs.YtfmghijmcgkpiaaW.PrintMore
open Go.Proofs.Ytfmghijmcgkpiaa.GS
attribute [local go_sem] max2_int min2_int max_two min_two max_three min_three max_four min_four   -- for this text's walks alone
set_option linter.unusedVariables false
set_option linter.unusedSimpArgs false
-- IMPORT .E5
-- IMPORT Derived.Outline
/-- Element k of a row of trees. -/
theorem exp_at {w : World} {A : Option Addr} {n : Nat} {xs : List S67} (h : Kd.C k67 w A n xs) (k : Nat) (x : S67) (hx : xs[k]? = some x) : ∃ ad A6 c6, A = some ad ∧ w.cell? (ad.add (k * 7)) = some (.int .i64 x.f0) ∧ w.cell? ⟨(ad.add (k * 7)).block, (ad.add (k * 7)).off + 1, none⟩ = some (.bool x.f1) ∧ w.cell? ⟨(ad.add (k * 7)).block, (ad.add (k * 7)).off + 2, none⟩ = some (.int .i64 x.f2) ∧ w.cell? ⟨(ad.add (k * 7)).block, (ad.add (k * 7)).off + 3, none⟩ = some (.string x.f3) ∧ w.cell? ⟨(ad.add (k * 7)).block, (ad.add (k * 7)).off + 4, none⟩ = some (.string x.f4.f0) ∧ w.cell? ⟨(ad.add (k * 7)).block, (ad.add (k * 7)).off + 5, none⟩ = some (.string x.f4.f1) ∧ w.cell? ⟨(ad.add (k * 7)).block, (ad.add (k * 7)).off + 6, none⟩ = some (.slice A6 x.f5.length c6) ∧ x.f5.length ≤ c6 ∧ k67.C w A6 x.f5.length x.f5 := by
  have hlt : k < xs.length := (List.getElem?_eq_some_iff.1 hx).1
  have hr : rd_T67 xs (k : Int) = x := by unfold rd_T67; rw [Int.toNat_natCast, List.getD_eq_getElem?_getD, hx]; rfl
  have hn := Kd.C_len h
  obtain ⟨ad, A6, c6, e, h1⟩ := at_T67 h (k : Int) (by omega) (by omega)
  rw [hr, Int.toNat_natCast] at h1
  exact ⟨ad, A6, c6, e, h1⟩
theorem Addr.add_7_ (ad : Addr) : ad.add 7 = ⟨ad.block, ad.off + 7, none⟩ := by simp [Addr.add]
theorem Addr.add_14_ (ad : Addr) : ad.add 14 = ⟨ad.block, ad.off + 14, none⟩ := by simp [Addr.add]
theorem Addr.add_zero_ (ad : Addr) : ad.add 0 = ad := by simp [Addr.add]
theorem Box.after7 {w : World} {b g : Nat} {c0 c1 c2 c3 c4 c5 c6 : Value} (h : Box w g) (hne : g ≠ b) : Box (((((((w.setCell ⟨b, 0, none⟩ c0).setCell ⟨b, 1, none⟩ c1).setCell ⟨b, 2, none⟩ c2).setCell ⟨b, 3, none⟩ c3).setCell ⟨b, 4, none⟩ c4).setCell ⟨b, 5, none⟩ c5).setCell ⟨b, 6, none⟩ c6) g := (heap_after7 c0 c1 c2 c3 c4 c5 c6 hne).trans h
/-- What is asked of the truth of a tree. -/
def AskOk (p0 p1 p2 p3 p4 p5 : ByteArray) (x : S67) (t : Bool) (er : Int) : Prop := ∀ (A : Option Addr) (c : Nat) (B : Option Addr) (kc : Nat) (W : World), x.f5.length ≤ kc → k67.C W B x.f5.length x.f5 →
  Calls Try.prog 158 #[.agg #[.slice A 0 c, .string p0, .string p1, .string p2, .string p3, .string p4, .string p5], .agg #[.int .i64 x.f0, .bool x.f1, .int .i64 x.f2, .string x.f3, .string x.f4.f0, .string x.f4.f1, .slice B x.f5.length kc]] W fun e w' => e = .returned (.tuple #[.bool t, .int .i64 er]) ∧ Below W.heap.size W w'
theorem ask_ok {p0 p1 p2 p3 p4 p5 : ByteArray} {x : S67} {r : S31} {er : Int} (h : ExprOk p0 p1 p2 p3 p4 p5 x r er) : AskOk p0 p1 p2 p3 p4 p5 x (askedF r er).1 (askedF r er).2 := by
  intro A c B kc W hl hC
  by_cases h1 : er = 0
  · by_cases h2 : r.f0 = 1
    · exact asked_ok p0 p1 p2 p3 p4 p5 x r er h h1 h2 A c B kc W hl hC
    · exact asked_type p0 p1 p2 p3 p4 p5 x r er h h1 h2 A c B kc W hl hC
  · exact asked_err p0 p1 p2 p3 p4 p5 x r er h h1 A c B kc W hl hC
def zV : S31 := ⟨0, false, 0, ⟨#[]⟩, ⟨⟨#[]⟩, ⟨#[]⟩⟩, []⟩
def trV (b : Bool) : S31 := ⟨1, b, 0, ⟨#[]⟩, ⟨⟨#[]⟩, ⟨#[]⟩⟩, []⟩
def nuV (n : Int) : S31 := ⟨2, false, n, ⟨#[]⟩, ⟨⟨#[]⟩, ⟨#[]⟩⟩, []⟩
set_option maxRecDepth 100000 in
set_option maxHeartbeats 16000000 in
theorem choice_err (p0 p1 p2 p3 p4 p5 : ByteArray) (x k0 : S67) (hkk0 : x.f5[0]? = some k0) (t : Bool) (er : Int) (her : er ≠ 0) (h : AskOk p0 p1 p2 p3 p4 p5 k0 t er) (A : Option Addr) (c : Nat) (B : Option Addr) (kc : Nat) (w : World) (hl : x.f5.length ≤ kc) (hC : k67.C w B x.f5.length x.f5) :
    Calls Try.prog 137 #[.agg #[.slice A 0 c, .string p0, .string p1, .string p2, .string p3, .string p4, .string p5], .agg #[.int .i64 x.f0, .bool x.f1, .int .i64 x.f2, .string x.f3, .string x.f4.f0, .string x.f4.f1, .slice B x.f5.length kc]] w (Gives w zV er) := by
  have HA := Aside0.mk h
  have her1 : (er != 0) = true := bne_iff_ne.mpr her
  clear h her
  obtain ⟨ad, Ak0, ck0, rfl, z0, z1, z2, z3, z4, z5, z6, hlk0, hck0⟩ := exp_at hC 0 k0 hkk0
  have h0a : ((0 : Int) < (x.f5.length : Int)) = True := eq_true (by have := (List.getElem?_eq_some_iff.1 hkk0).1; omega)
  have h0n : 0 < x.f5.length := (List.getElem?_eq_some_iff.1 hkk0).1
  simp only [Nat.zero_mul, Addr.add_zero_] at z0 z1 z2 z3 z4 z5 z6
  have HLk0 := Aside0.mk hlk0
  have HCk0 := Aside0.mk hck0
  have HCC := Aside0.mk hC
  clear hlk0 hck0 hC
  go_enter Try.func137, Try.ntmps137
  go_wp2_with fail
  have g0 : (((w.alloc (Obj.cells #[.slice A 0 c, .string p0, .string p1, .string p2, .string p3, .string p4, .string p5] 151)).alloc (Obj.cells #[.int .i64 x.f0, .bool x.f1, .int .i64 x.f2, .string x.f3, .string x.f4.f0, .string x.f4.f1, .slice (some ad) x.f5.length kc] 67)).alloc (Obj.cells #[.int .i64 0, .bool false, .int .i64 0, .string ⟨#[]⟩, .string ⟨#[]⟩, .string ⟨#[]⟩, .slice none 0 0] 31)).cell? ⟨w.heap.size, 0, none⟩ = some (Value.slice A 0 c) := by go_simp
  have g1 : (((w.alloc (Obj.cells #[.slice A 0 c, .string p0, .string p1, .string p2, .string p3, .string p4, .string p5] 151)).alloc (Obj.cells #[.int .i64 x.f0, .bool x.f1, .int .i64 x.f2, .string x.f3, .string x.f4.f0, .string x.f4.f1, .slice (some ad) x.f5.length kc] 67)).alloc (Obj.cells #[.int .i64 0, .bool false, .int .i64 0, .string ⟨#[]⟩, .string ⟨#[]⟩, .string ⟨#[]⟩, .slice none 0 0] 31)).cell? ⟨w.heap.size, 1, none⟩ = some (Value.string p0) := by go_simp
  have g2 : (((w.alloc (Obj.cells #[.slice A 0 c, .string p0, .string p1, .string p2, .string p3, .string p4, .string p5] 151)).alloc (Obj.cells #[.int .i64 x.f0, .bool x.f1, .int .i64 x.f2, .string x.f3, .string x.f4.f0, .string x.f4.f1, .slice (some ad) x.f5.length kc] 67)).alloc (Obj.cells #[.int .i64 0, .bool false, .int .i64 0, .string ⟨#[]⟩, .string ⟨#[]⟩, .string ⟨#[]⟩, .slice none 0 0] 31)).cell? ⟨w.heap.size, 2, none⟩ = some (Value.string p1) := by go_simp
  have g3 : (((w.alloc (Obj.cells #[.slice A 0 c, .string p0, .string p1, .string p2, .string p3, .string p4, .string p5] 151)).alloc (Obj.cells #[.int .i64 x.f0, .bool x.f1, .int .i64 x.f2, .string x.f3, .string x.f4.f0, .string x.f4.f1, .slice (some ad) x.f5.length kc] 67)).alloc (Obj.cells #[.int .i64 0, .bool false, .int .i64 0, .string ⟨#[]⟩, .string ⟨#[]⟩, .string ⟨#[]⟩, .slice none 0 0] 31)).cell? ⟨w.heap.size, 3, none⟩ = some (Value.string p2) := by go_simp
  have g4 : (((w.alloc (Obj.cells #[.slice A 0 c, .string p0, .string p1, .string p2, .string p3, .string p4, .string p5] 151)).alloc (Obj.cells #[.int .i64 x.f0, .bool x.f1, .int .i64 x.f2, .string x.f3, .string x.f4.f0, .string x.f4.f1, .slice (some ad) x.f5.length kc] 67)).alloc (Obj.cells #[.int .i64 0, .bool false, .int .i64 0, .string ⟨#[]⟩, .string ⟨#[]⟩, .string ⟨#[]⟩, .slice none 0 0] 31)).cell? ⟨w.heap.size, 4, none⟩ = some (Value.string p3) := by go_simp
  have g5 : (((w.alloc (Obj.cells #[.slice A 0 c, .string p0, .string p1, .string p2, .string p3, .string p4, .string p5] 151)).alloc (Obj.cells #[.int .i64 x.f0, .bool x.f1, .int .i64 x.f2, .string x.f3, .string x.f4.f0, .string x.f4.f1, .slice (some ad) x.f5.length kc] 67)).alloc (Obj.cells #[.int .i64 0, .bool false, .int .i64 0, .string ⟨#[]⟩, .string ⟨#[]⟩, .string ⟨#[]⟩, .slice none 0 0] 31)).cell? ⟨w.heap.size, 5, none⟩ = some (Value.string p4) := by go_simp
  have g6 : (((w.alloc (Obj.cells #[.slice A 0 c, .string p0, .string p1, .string p2, .string p3, .string p4, .string p5] 151)).alloc (Obj.cells #[.int .i64 x.f0, .bool x.f1, .int .i64 x.f2, .string x.f3, .string x.f4.f0, .string x.f4.f1, .slice (some ad) x.f5.length kc] 67)).alloc (Obj.cells #[.int .i64 0, .bool false, .int .i64 0, .string ⟨#[]⟩, .string ⟨#[]⟩, .string ⟨#[]⟩, .slice none 0 0] 31)).cell? ⟨w.heap.size, 6, none⟩ = some (Value.string p5) := by go_simp
  have e0 : (((w.alloc (Obj.cells #[.slice A 0 c, .string p0, .string p1, .string p2, .string p3, .string p4, .string p5] 151)).alloc (Obj.cells #[.int .i64 x.f0, .bool x.f1, .int .i64 x.f2, .string x.f3, .string x.f4.f0, .string x.f4.f1, .slice (some ad) x.f5.length kc] 67)).alloc (Obj.cells #[.int .i64 0, .bool false, .int .i64 0, .string ⟨#[]⟩, .string ⟨#[]⟩, .string ⟨#[]⟩, .slice none 0 0] 31)).cell? ⟨w.heap.size + 1, 0, none⟩ = some (Value.int .i64 x.f0) := by go_simp
  have e1 : (((w.alloc (Obj.cells #[.slice A 0 c, .string p0, .string p1, .string p2, .string p3, .string p4, .string p5] 151)).alloc (Obj.cells #[.int .i64 x.f0, .bool x.f1, .int .i64 x.f2, .string x.f3, .string x.f4.f0, .string x.f4.f1, .slice (some ad) x.f5.length kc] 67)).alloc (Obj.cells #[.int .i64 0, .bool false, .int .i64 0, .string ⟨#[]⟩, .string ⟨#[]⟩, .string ⟨#[]⟩, .slice none 0 0] 31)).cell? ⟨w.heap.size + 1, 1, none⟩ = some (Value.bool x.f1) := by go_simp
  have e2 : (((w.alloc (Obj.cells #[.slice A 0 c, .string p0, .string p1, .string p2, .string p3, .string p4, .string p5] 151)).alloc (Obj.cells #[.int .i64 x.f0, .bool x.f1, .int .i64 x.f2, .string x.f3, .string x.f4.f0, .string x.f4.f1, .slice (some ad) x.f5.length kc] 67)).alloc (Obj.cells #[.int .i64 0, .bool false, .int .i64 0, .string ⟨#[]⟩, .string ⟨#[]⟩, .string ⟨#[]⟩, .slice none 0 0] 31)).cell? ⟨w.heap.size + 1, 2, none⟩ = some (Value.int .i64 x.f2) := by go_simp
  have e3 : (((w.alloc (Obj.cells #[.slice A 0 c, .string p0, .string p1, .string p2, .string p3, .string p4, .string p5] 151)).alloc (Obj.cells #[.int .i64 x.f0, .bool x.f1, .int .i64 x.f2, .string x.f3, .string x.f4.f0, .string x.f4.f1, .slice (some ad) x.f5.length kc] 67)).alloc (Obj.cells #[.int .i64 0, .bool false, .int .i64 0, .string ⟨#[]⟩, .string ⟨#[]⟩, .string ⟨#[]⟩, .slice none 0 0] 31)).cell? ⟨w.heap.size + 1, 3, none⟩ = some (Value.string x.f3) := by go_simp
  have e4 : (((w.alloc (Obj.cells #[.slice A 0 c, .string p0, .string p1, .string p2, .string p3, .string p4, .string p5] 151)).alloc (Obj.cells #[.int .i64 x.f0, .bool x.f1, .int .i64 x.f2, .string x.f3, .string x.f4.f0, .string x.f4.f1, .slice (some ad) x.f5.length kc] 67)).alloc (Obj.cells #[.int .i64 0, .bool false, .int .i64 0, .string ⟨#[]⟩, .string ⟨#[]⟩, .string ⟨#[]⟩, .slice none 0 0] 31)).cell? ⟨w.heap.size + 1, 4, none⟩ = some (Value.string x.f4.f0) := by go_simp
  have e5 : (((w.alloc (Obj.cells #[.slice A 0 c, .string p0, .string p1, .string p2, .string p3, .string p4, .string p5] 151)).alloc (Obj.cells #[.int .i64 x.f0, .bool x.f1, .int .i64 x.f2, .string x.f3, .string x.f4.f0, .string x.f4.f1, .slice (some ad) x.f5.length kc] 67)).alloc (Obj.cells #[.int .i64 0, .bool false, .int .i64 0, .string ⟨#[]⟩, .string ⟨#[]⟩, .string ⟨#[]⟩, .slice none 0 0] 31)).cell? ⟨w.heap.size + 1, 5, none⟩ = some (Value.string x.f4.f1) := by go_simp
  have e6 : (((w.alloc (Obj.cells #[.slice A 0 c, .string p0, .string p1, .string p2, .string p3, .string p4, .string p5] 151)).alloc (Obj.cells #[.int .i64 x.f0, .bool x.f1, .int .i64 x.f2, .string x.f3, .string x.f4.f0, .string x.f4.f1, .slice (some ad) x.f5.length kc] 67)).alloc (Obj.cells #[.int .i64 0, .bool false, .int .i64 0, .string ⟨#[]⟩, .string ⟨#[]⟩, .string ⟨#[]⟩, .slice none 0 0] 31)).cell? ⟨w.heap.size + 1, 6, none⟩ = some (Value.slice (some ad) x.f5.length kc) := by go_simp
  have xl : Below w.heap.size w (((w.alloc (Obj.cells #[.slice A 0 c, .string p0, .string p1, .string p2, .string p3, .string p4, .string p5] 151)).alloc (Obj.cells #[.int .i64 x.f0, .bool x.f1, .int .i64 x.f2, .string x.f3, .string x.f4.f0, .string x.f4.f1, .slice (some ad) x.f5.length kc] 67)).alloc (Obj.cells #[.int .i64 0, .bool false, .int .i64 0, .string ⟨#[]⟩, .string ⟨#[]⟩, .string ⟨#[]⟩, .slice none 0 0] 31)) := by repeat (first | exact Below.refl _ _ | apply below_alloc)
  replace z0 := (xl.cell (World.block_lt_of_cell? _ _ z0)).trans z0
  replace z1 := (xl.cell (World.block_lt_of_cell? _ _ z1)).trans z1
  replace z2 := (xl.cell (World.block_lt_of_cell? _ _ z2)).trans z2
  replace z3 := (xl.cell (World.block_lt_of_cell? _ _ z3)).trans z3
  replace z4 := (xl.cell (World.block_lt_of_cell? _ _ z4)).trans z4
  replace z5 := (xl.cell (World.block_lt_of_cell? _ _ z5)).trans z5
  replace z6 := (xl.cell (World.block_lt_of_cell? _ _ z6)).trans z6
  have xb : Box (((w.alloc (Obj.cells #[.slice A 0 c, .string p0, .string p1, .string p2, .string p3, .string p4, .string p5] 151)).alloc (Obj.cells #[.int .i64 x.f0, .bool x.f1, .int .i64 x.f2, .string x.f3, .string x.f4.f0, .string x.f4.f1, .slice (some ad) x.f5.length kc] 67)).alloc (Obj.cells #[.int .i64 0, .bool false, .int .i64 0, .string ⟨#[]⟩, .string ⟨#[]⟩, .string ⟨#[]⟩, .slice none 0 0] 31)) (w.heap.size + 1 + 1) := (by repeat (first | exact blk_at _ _ _ (by simp; done) | (refine (Below.heap_alloc _ _ _ (by first | (simp; done) | (simp; omega))).trans ?_)))
  generalize (((w.alloc (Obj.cells #[.slice A 0 c, .string p0, .string p1, .string p2, .string p3, .string p4, .string p5] 151)).alloc (Obj.cells #[.int .i64 x.f0, .bool x.f1, .int .i64 x.f2, .string x.f3, .string x.f4.f0, .string x.f4.f1, .slice (some ad) x.f5.length kc] 67)).alloc (Obj.cells #[.int .i64 0, .bool false, .int .i64 0, .string ⟨#[]⟩, .string ⟨#[]⟩, .string ⟨#[]⟩, .slice none 0 0] 31)) = V at g0 g1 g2 g3 g4 g5 g6 e0 e1 e2 e3 e4 e5 e6 z0 z1 z2 z3 z4 z5 z6 xb xl ⊢
  replace g0 : V.drew.cell? ⟨w.heap.size, 0, none⟩ = some (Value.slice A 0 c) := g0
  replace g1 : V.drew.cell? ⟨w.heap.size, 1, none⟩ = some (Value.string p0) := g1
  replace g2 : V.drew.cell? ⟨w.heap.size, 2, none⟩ = some (Value.string p1) := g2
  replace g3 : V.drew.cell? ⟨w.heap.size, 3, none⟩ = some (Value.string p2) := g3
  replace g4 : V.drew.cell? ⟨w.heap.size, 4, none⟩ = some (Value.string p3) := g4
  replace g5 : V.drew.cell? ⟨w.heap.size, 5, none⟩ = some (Value.string p4) := g5
  replace g6 : V.drew.cell? ⟨w.heap.size, 6, none⟩ = some (Value.string p5) := g6
  replace e0 : V.drew.cell? ⟨w.heap.size + 1, 0, none⟩ = some (Value.int .i64 x.f0) := e0
  replace e1 : V.drew.cell? ⟨w.heap.size + 1, 1, none⟩ = some (Value.bool x.f1) := e1
  replace e2 : V.drew.cell? ⟨w.heap.size + 1, 2, none⟩ = some (Value.int .i64 x.f2) := e2
  replace e3 : V.drew.cell? ⟨w.heap.size + 1, 3, none⟩ = some (Value.string x.f3) := e3
  replace e4 : V.drew.cell? ⟨w.heap.size + 1, 4, none⟩ = some (Value.string x.f4.f0) := e4
  replace e5 : V.drew.cell? ⟨w.heap.size + 1, 5, none⟩ = some (Value.string x.f4.f1) := e5
  replace e6 : V.drew.cell? ⟨w.heap.size + 1, 6, none⟩ = some (Value.slice (some ad) x.f5.length kc) := e6
  replace z0 : V.drew.cell? ad = some (Value.int .i64 k0.f0) := z0
  replace z1 : V.drew.cell? ⟨ad.block, ad.off + 1, none⟩ = some (Value.bool k0.f1) := z1
  replace z2 : V.drew.cell? ⟨ad.block, ad.off + 2, none⟩ = some (Value.int .i64 k0.f2) := z2
  replace z3 : V.drew.cell? ⟨ad.block, ad.off + 3, none⟩ = some (Value.string k0.f3) := z3
  replace z4 : V.drew.cell? ⟨ad.block, ad.off + 4, none⟩ = some (Value.string k0.f4.f0) := z4
  replace z5 : V.drew.cell? ⟨ad.block, ad.off + 5, none⟩ = some (Value.string k0.f4.f1) := z5
  replace z6 : V.drew.cell? ⟨ad.block, ad.off + 6, none⟩ = some (Value.slice Ak0 k0.f5.length ck0) := z6
  replace xb : Box V.drew (w.heap.size + 1 + 1) := xb
  replace xl : Below w.heap.size w V.drew := below_drew1 xl
  go_region_held3 (fun W => W.cell? ⟨w.heap.size, 0, none⟩ = some (Value.slice A 0 c) ∧ W.cell? ⟨w.heap.size, 1, none⟩ = some (Value.string p0) ∧ W.cell? ⟨w.heap.size, 2, none⟩ = some (Value.string p1) ∧ W.cell? ⟨w.heap.size, 3, none⟩ = some (Value.string p2) ∧ W.cell? ⟨w.heap.size, 4, none⟩ = some (Value.string p3) ∧ W.cell? ⟨w.heap.size, 5, none⟩ = some (Value.string p4) ∧ W.cell? ⟨w.heap.size, 6, none⟩ = some (Value.string p5) ∧ W.cell? ⟨w.heap.size + 1, 0, none⟩ = some (Value.int .i64 x.f0) ∧ W.cell? ⟨w.heap.size + 1, 1, none⟩ = some (Value.bool x.f1) ∧ W.cell? ⟨w.heap.size + 1, 2, none⟩ = some (Value.int .i64 x.f2) ∧ W.cell? ⟨w.heap.size + 1, 3, none⟩ = some (Value.string x.f3) ∧ W.cell? ⟨w.heap.size + 1, 4, none⟩ = some (Value.string x.f4.f0) ∧ W.cell? ⟨w.heap.size + 1, 5, none⟩ = some (Value.string x.f4.f1) ∧ W.cell? ⟨w.heap.size + 1, 6, none⟩ = some (Value.slice (some ad) x.f5.length kc) ∧ W.cell? ad = some (Value.int .i64 k0.f0) ∧ W.cell? ⟨ad.block, ad.off + 1, none⟩ = some (Value.bool k0.f1) ∧ W.cell? ⟨ad.block, ad.off + 2, none⟩ = some (Value.int .i64 k0.f2) ∧ W.cell? ⟨ad.block, ad.off + 3, none⟩ = some (Value.string k0.f3) ∧ W.cell? ⟨ad.block, ad.off + 4, none⟩ = some (Value.string k0.f4.f0) ∧ W.cell? ⟨ad.block, ad.off + 5, none⟩ = some (Value.string k0.f4.f1) ∧ W.cell? ⟨ad.block, ad.off + 6, none⟩ = some (Value.slice Ak0 k0.f5.length ck0) ∧ Box W (w.heap.size + 1 + 1) ∧ Below w.heap.size w W)
    ((first | ((try go_split_ands); refine ⟨?_, ?_, ?_, ?_, ?_, ?_, ?_, ?_, ?_, ?_, ?_, ?_, ?_, ?_, ?_, ?_, ?_, ?_, ?_, ?_, ?_, ?_, ?_⟩ <;> first | (with_reducible assumption) | (with_reducible exact cell_after7 (by with_reducible assumption) (by omega)) | (with_reducible exact below_after7 (by with_reducible assumption) (by omega)) | (with_reducible exact Box.after7 (by with_reducible assumption) (by omega)) | (with_reducible exact (hb.cell (World.block_lt_of_cell? _ _ (by with_reducible assumption))).trans (by with_reducible assumption)) | (with_reducible exact below_step (by with_reducible assumption) hb) | (with_reducible exact Box.mono (by with_reducible assumption) hb))))
    ((go_at_call 158; refine (HA.out _ _ _ _ _ HLk0.out (Kd.C_below HCk0.out xl)).mono ?_; rintro e w' ⟨rfl, hb⟩))
  go_split_ands
  have HB1 : Aside0 (Below w.heap.size w w') := ⟨by with_reducible assumption⟩
  have HBX1 : Aside0 (Box w' (w.heap.size + 1 + 1)) := ⟨by with_reducible assumption⟩
  have q0 := HBX1.out.c0
  have q1 := HBX1.out.c1
  have q2 := HBX1.out.c2
  have q3 := HBX1.out.c3
  have q4 := HBX1.out.c4
  have q5 := HBX1.out.c5
  have q6 := HBX1.out.c6
  have q7 := HBX1.out.fr
  go_wp2
  (try simp only [Exit.inBlock, Exit.then])
  have hd := HBX1.out.done (.int .i64 0) (.bool false) (.int .i64 0) (.string ⟨#[]⟩) (.string ⟨#[]⟩) (.string ⟨#[]⟩) (.slice none 0 0)
  have hbl := HB1.out.trans (below_cells (B := w.heap.size) (w.heap.size + 1 + 1) (by omega) [.int .i64 0, .bool false, .int .i64 0, .string ⟨#[]⟩, .string ⟨#[]⟩, .string ⟨#[]⟩, .slice none 0 0] 0 w')
  simp only [World.setCells] at hd hbl
  refine bodyPost_ret (results_row_tmp rfl _ _ (w.heap.size + 1 + 1) 31 _ (0, 0) _ rfl hd Try.underlying31 rfl (by kernel_rfl)) rfl ?_
  exact ⟨_, rfl, Kd.V_nil _ _ _ _ _, hbl⟩
set_option maxRecDepth 100000 in
set_option maxHeartbeats 16000000 in
theorem choice_if_true (p0 p1 p2 p3 p4 p5 : ByteArray) (x k0 k1 : S67) (hkk0 : x.f5[0]? = some k0) (hkk1 : x.f5[1]? = some k1) (hop : x.f0 = 25) (h : AskOk p0 p1 p2 p3 p4 p5 k0 true 0) (r : S31) (er : Int) (h2 : ExprOk p0 p1 p2 p3 p4 p5 k1 r er) (A : Option Addr) (c : Nat) (B : Option Addr) (kc : Nat) (w : World) (hl : x.f5.length ≤ kc) (hC : k67.C w B x.f5.length x.f5) :
    Calls Try.prog 137 #[.agg #[.slice A 0 c, .string p0, .string p1, .string p2, .string p3, .string p4, .string p5], .agg #[.int .i64 x.f0, .bool x.f1, .int .i64 x.f2, .string x.f3, .string x.f4.f0, .string x.f4.f1, .slice B x.f5.length kc]] w (Gives w r er) := by
  have HA := Aside0.mk h
  have HE := Aside0.mk h2
  have hop1 : (x.f0 == 25) = true := beq_iff_eq.mpr hop
  clear h h2 hop
  obtain ⟨ad, Ak0, ck0, rfl, z0, z1, z2, z3, z4, z5, z6, hlk0, hck0⟩ := exp_at hC 0 k0 hkk0
  have h0a : ((0 : Int) < (x.f5.length : Int)) = True := eq_true (by have := (List.getElem?_eq_some_iff.1 hkk0).1; omega)
  have h0n : 0 < x.f5.length := (List.getElem?_eq_some_iff.1 hkk0).1
  simp only [Nat.zero_mul, Addr.add_zero_] at z0 z1 z2 z3 z4 z5 z6
  have HLk0 := Aside0.mk hlk0
  have HCk0 := Aside0.mk hck0
  have HCC := Aside0.mk hC
  clear hlk0 hck0 hC
  go_enter Try.func137, Try.ntmps137
  go_wp2_with fail
  have g0 : (((w.alloc (Obj.cells #[.slice A 0 c, .string p0, .string p1, .string p2, .string p3, .string p4, .string p5] 151)).alloc (Obj.cells #[.int .i64 x.f0, .bool x.f1, .int .i64 x.f2, .string x.f3, .string x.f4.f0, .string x.f4.f1, .slice (some ad) x.f5.length kc] 67)).alloc (Obj.cells #[.int .i64 0, .bool false, .int .i64 0, .string ⟨#[]⟩, .string ⟨#[]⟩, .string ⟨#[]⟩, .slice none 0 0] 31)).cell? ⟨w.heap.size, 0, none⟩ = some (Value.slice A 0 c) := by go_simp
  have g1 : (((w.alloc (Obj.cells #[.slice A 0 c, .string p0, .string p1, .string p2, .string p3, .string p4, .string p5] 151)).alloc (Obj.cells #[.int .i64 x.f0, .bool x.f1, .int .i64 x.f2, .string x.f3, .string x.f4.f0, .string x.f4.f1, .slice (some ad) x.f5.length kc] 67)).alloc (Obj.cells #[.int .i64 0, .bool false, .int .i64 0, .string ⟨#[]⟩, .string ⟨#[]⟩, .string ⟨#[]⟩, .slice none 0 0] 31)).cell? ⟨w.heap.size, 1, none⟩ = some (Value.string p0) := by go_simp
  have g2 : (((w.alloc (Obj.cells #[.slice A 0 c, .string p0, .string p1, .string p2, .string p3, .string p4, .string p5] 151)).alloc (Obj.cells #[.int .i64 x.f0, .bool x.f1, .int .i64 x.f2, .string x.f3, .string x.f4.f0, .string x.f4.f1, .slice (some ad) x.f5.length kc] 67)).alloc (Obj.cells #[.int .i64 0, .bool false, .int .i64 0, .string ⟨#[]⟩, .string ⟨#[]⟩, .string ⟨#[]⟩, .slice none 0 0] 31)).cell? ⟨w.heap.size, 2, none⟩ = some (Value.string p1) := by go_simp
  have g3 : (((w.alloc (Obj.cells #[.slice A 0 c, .string p0, .string p1, .string p2, .string p3, .string p4, .string p5] 151)).alloc (Obj.cells #[.int .i64 x.f0, .bool x.f1, .int .i64 x.f2, .string x.f3, .string x.f4.f0, .string x.f4.f1, .slice (some ad) x.f5.length kc] 67)).alloc (Obj.cells #[.int .i64 0, .bool false, .int .i64 0, .string ⟨#[]⟩, .string ⟨#[]⟩, .string ⟨#[]⟩, .slice none 0 0] 31)).cell? ⟨w.heap.size, 3, none⟩ = some (Value.string p2) := by go_simp
  have g4 : (((w.alloc (Obj.cells #[.slice A 0 c, .string p0, .string p1, .string p2, .string p3, .string p4, .string p5] 151)).alloc (Obj.cells #[.int .i64 x.f0, .bool x.f1, .int .i64 x.f2, .string x.f3, .string x.f4.f0, .string x.f4.f1, .slice (some ad) x.f5.length kc] 67)).alloc (Obj.cells #[.int .i64 0, .bool false, .int .i64 0, .string ⟨#[]⟩, .string ⟨#[]⟩, .string ⟨#[]⟩, .slice none 0 0] 31)).cell? ⟨w.heap.size, 4, none⟩ = some (Value.string p3) := by go_simp
  have g5 : (((w.alloc (Obj.cells #[.slice A 0 c, .string p0, .string p1, .string p2, .string p3, .string p4, .string p5] 151)).alloc (Obj.cells #[.int .i64 x.f0, .bool x.f1, .int .i64 x.f2, .string x.f3, .string x.f4.f0, .string x.f4.f1, .slice (some ad) x.f5.length kc] 67)).alloc (Obj.cells #[.int .i64 0, .bool false, .int .i64 0, .string ⟨#[]⟩, .string ⟨#[]⟩, .string ⟨#[]⟩, .slice none 0 0] 31)).cell? ⟨w.heap.size, 5, none⟩ = some (Value.string p4) := by go_simp
  have g6 : (((w.alloc (Obj.cells #[.slice A 0 c, .string p0, .string p1, .string p2, .string p3, .string p4, .string p5] 151)).alloc (Obj.cells #[.int .i64 x.f0, .bool x.f1, .int .i64 x.f2, .string x.f3, .string x.f4.f0, .string x.f4.f1, .slice (some ad) x.f5.length kc] 67)).alloc (Obj.cells #[.int .i64 0, .bool false, .int .i64 0, .string ⟨#[]⟩, .string ⟨#[]⟩, .string ⟨#[]⟩, .slice none 0 0] 31)).cell? ⟨w.heap.size, 6, none⟩ = some (Value.string p5) := by go_simp
  have e0 : (((w.alloc (Obj.cells #[.slice A 0 c, .string p0, .string p1, .string p2, .string p3, .string p4, .string p5] 151)).alloc (Obj.cells #[.int .i64 x.f0, .bool x.f1, .int .i64 x.f2, .string x.f3, .string x.f4.f0, .string x.f4.f1, .slice (some ad) x.f5.length kc] 67)).alloc (Obj.cells #[.int .i64 0, .bool false, .int .i64 0, .string ⟨#[]⟩, .string ⟨#[]⟩, .string ⟨#[]⟩, .slice none 0 0] 31)).cell? ⟨w.heap.size + 1, 0, none⟩ = some (Value.int .i64 x.f0) := by go_simp
  have e1 : (((w.alloc (Obj.cells #[.slice A 0 c, .string p0, .string p1, .string p2, .string p3, .string p4, .string p5] 151)).alloc (Obj.cells #[.int .i64 x.f0, .bool x.f1, .int .i64 x.f2, .string x.f3, .string x.f4.f0, .string x.f4.f1, .slice (some ad) x.f5.length kc] 67)).alloc (Obj.cells #[.int .i64 0, .bool false, .int .i64 0, .string ⟨#[]⟩, .string ⟨#[]⟩, .string ⟨#[]⟩, .slice none 0 0] 31)).cell? ⟨w.heap.size + 1, 1, none⟩ = some (Value.bool x.f1) := by go_simp
  have e2 : (((w.alloc (Obj.cells #[.slice A 0 c, .string p0, .string p1, .string p2, .string p3, .string p4, .string p5] 151)).alloc (Obj.cells #[.int .i64 x.f0, .bool x.f1, .int .i64 x.f2, .string x.f3, .string x.f4.f0, .string x.f4.f1, .slice (some ad) x.f5.length kc] 67)).alloc (Obj.cells #[.int .i64 0, .bool false, .int .i64 0, .string ⟨#[]⟩, .string ⟨#[]⟩, .string ⟨#[]⟩, .slice none 0 0] 31)).cell? ⟨w.heap.size + 1, 2, none⟩ = some (Value.int .i64 x.f2) := by go_simp
  have e3 : (((w.alloc (Obj.cells #[.slice A 0 c, .string p0, .string p1, .string p2, .string p3, .string p4, .string p5] 151)).alloc (Obj.cells #[.int .i64 x.f0, .bool x.f1, .int .i64 x.f2, .string x.f3, .string x.f4.f0, .string x.f4.f1, .slice (some ad) x.f5.length kc] 67)).alloc (Obj.cells #[.int .i64 0, .bool false, .int .i64 0, .string ⟨#[]⟩, .string ⟨#[]⟩, .string ⟨#[]⟩, .slice none 0 0] 31)).cell? ⟨w.heap.size + 1, 3, none⟩ = some (Value.string x.f3) := by go_simp
  have e4 : (((w.alloc (Obj.cells #[.slice A 0 c, .string p0, .string p1, .string p2, .string p3, .string p4, .string p5] 151)).alloc (Obj.cells #[.int .i64 x.f0, .bool x.f1, .int .i64 x.f2, .string x.f3, .string x.f4.f0, .string x.f4.f1, .slice (some ad) x.f5.length kc] 67)).alloc (Obj.cells #[.int .i64 0, .bool false, .int .i64 0, .string ⟨#[]⟩, .string ⟨#[]⟩, .string ⟨#[]⟩, .slice none 0 0] 31)).cell? ⟨w.heap.size + 1, 4, none⟩ = some (Value.string x.f4.f0) := by go_simp
  have e5 : (((w.alloc (Obj.cells #[.slice A 0 c, .string p0, .string p1, .string p2, .string p3, .string p4, .string p5] 151)).alloc (Obj.cells #[.int .i64 x.f0, .bool x.f1, .int .i64 x.f2, .string x.f3, .string x.f4.f0, .string x.f4.f1, .slice (some ad) x.f5.length kc] 67)).alloc (Obj.cells #[.int .i64 0, .bool false, .int .i64 0, .string ⟨#[]⟩, .string ⟨#[]⟩, .string ⟨#[]⟩, .slice none 0 0] 31)).cell? ⟨w.heap.size + 1, 5, none⟩ = some (Value.string x.f4.f1) := by go_simp
  have e6 : (((w.alloc (Obj.cells #[.slice A 0 c, .string p0, .string p1, .string p2, .string p3, .string p4, .string p5] 151)).alloc (Obj.cells #[.int .i64 x.f0, .bool x.f1, .int .i64 x.f2, .string x.f3, .string x.f4.f0, .string x.f4.f1, .slice (some ad) x.f5.length kc] 67)).alloc (Obj.cells #[.int .i64 0, .bool false, .int .i64 0, .string ⟨#[]⟩, .string ⟨#[]⟩, .string ⟨#[]⟩, .slice none 0 0] 31)).cell? ⟨w.heap.size + 1, 6, none⟩ = some (Value.slice (some ad) x.f5.length kc) := by go_simp
  have xl : Below w.heap.size w (((w.alloc (Obj.cells #[.slice A 0 c, .string p0, .string p1, .string p2, .string p3, .string p4, .string p5] 151)).alloc (Obj.cells #[.int .i64 x.f0, .bool x.f1, .int .i64 x.f2, .string x.f3, .string x.f4.f0, .string x.f4.f1, .slice (some ad) x.f5.length kc] 67)).alloc (Obj.cells #[.int .i64 0, .bool false, .int .i64 0, .string ⟨#[]⟩, .string ⟨#[]⟩, .string ⟨#[]⟩, .slice none 0 0] 31)) := by repeat (first | exact Below.refl _ _ | apply below_alloc)
  replace z0 := (xl.cell (World.block_lt_of_cell? _ _ z0)).trans z0
  replace z1 := (xl.cell (World.block_lt_of_cell? _ _ z1)).trans z1
  replace z2 := (xl.cell (World.block_lt_of_cell? _ _ z2)).trans z2
  replace z3 := (xl.cell (World.block_lt_of_cell? _ _ z3)).trans z3
  replace z4 := (xl.cell (World.block_lt_of_cell? _ _ z4)).trans z4
  replace z5 := (xl.cell (World.block_lt_of_cell? _ _ z5)).trans z5
  replace z6 := (xl.cell (World.block_lt_of_cell? _ _ z6)).trans z6
  have xb : Box (((w.alloc (Obj.cells #[.slice A 0 c, .string p0, .string p1, .string p2, .string p3, .string p4, .string p5] 151)).alloc (Obj.cells #[.int .i64 x.f0, .bool x.f1, .int .i64 x.f2, .string x.f3, .string x.f4.f0, .string x.f4.f1, .slice (some ad) x.f5.length kc] 67)).alloc (Obj.cells #[.int .i64 0, .bool false, .int .i64 0, .string ⟨#[]⟩, .string ⟨#[]⟩, .string ⟨#[]⟩, .slice none 0 0] 31)) (w.heap.size + 1 + 1) := (by repeat (first | exact blk_at _ _ _ (by simp; done) | (refine (Below.heap_alloc _ _ _ (by first | (simp; done) | (simp; omega))).trans ?_)))
  generalize (((w.alloc (Obj.cells #[.slice A 0 c, .string p0, .string p1, .string p2, .string p3, .string p4, .string p5] 151)).alloc (Obj.cells #[.int .i64 x.f0, .bool x.f1, .int .i64 x.f2, .string x.f3, .string x.f4.f0, .string x.f4.f1, .slice (some ad) x.f5.length kc] 67)).alloc (Obj.cells #[.int .i64 0, .bool false, .int .i64 0, .string ⟨#[]⟩, .string ⟨#[]⟩, .string ⟨#[]⟩, .slice none 0 0] 31)) = V at g0 g1 g2 g3 g4 g5 g6 e0 e1 e2 e3 e4 e5 e6 z0 z1 z2 z3 z4 z5 z6 xb xl ⊢
  replace g0 : V.drew.cell? ⟨w.heap.size, 0, none⟩ = some (Value.slice A 0 c) := g0
  replace g1 : V.drew.cell? ⟨w.heap.size, 1, none⟩ = some (Value.string p0) := g1
  replace g2 : V.drew.cell? ⟨w.heap.size, 2, none⟩ = some (Value.string p1) := g2
  replace g3 : V.drew.cell? ⟨w.heap.size, 3, none⟩ = some (Value.string p2) := g3
  replace g4 : V.drew.cell? ⟨w.heap.size, 4, none⟩ = some (Value.string p3) := g4
  replace g5 : V.drew.cell? ⟨w.heap.size, 5, none⟩ = some (Value.string p4) := g5
  replace g6 : V.drew.cell? ⟨w.heap.size, 6, none⟩ = some (Value.string p5) := g6
  replace e0 : V.drew.cell? ⟨w.heap.size + 1, 0, none⟩ = some (Value.int .i64 x.f0) := e0
  replace e1 : V.drew.cell? ⟨w.heap.size + 1, 1, none⟩ = some (Value.bool x.f1) := e1
  replace e2 : V.drew.cell? ⟨w.heap.size + 1, 2, none⟩ = some (Value.int .i64 x.f2) := e2
  replace e3 : V.drew.cell? ⟨w.heap.size + 1, 3, none⟩ = some (Value.string x.f3) := e3
  replace e4 : V.drew.cell? ⟨w.heap.size + 1, 4, none⟩ = some (Value.string x.f4.f0) := e4
  replace e5 : V.drew.cell? ⟨w.heap.size + 1, 5, none⟩ = some (Value.string x.f4.f1) := e5
  replace e6 : V.drew.cell? ⟨w.heap.size + 1, 6, none⟩ = some (Value.slice (some ad) x.f5.length kc) := e6
  replace z0 : V.drew.cell? ad = some (Value.int .i64 k0.f0) := z0
  replace z1 : V.drew.cell? ⟨ad.block, ad.off + 1, none⟩ = some (Value.bool k0.f1) := z1
  replace z2 : V.drew.cell? ⟨ad.block, ad.off + 2, none⟩ = some (Value.int .i64 k0.f2) := z2
  replace z3 : V.drew.cell? ⟨ad.block, ad.off + 3, none⟩ = some (Value.string k0.f3) := z3
  replace z4 : V.drew.cell? ⟨ad.block, ad.off + 4, none⟩ = some (Value.string k0.f4.f0) := z4
  replace z5 : V.drew.cell? ⟨ad.block, ad.off + 5, none⟩ = some (Value.string k0.f4.f1) := z5
  replace z6 : V.drew.cell? ⟨ad.block, ad.off + 6, none⟩ = some (Value.slice Ak0 k0.f5.length ck0) := z6
  replace xb : Box V.drew (w.heap.size + 1 + 1) := xb
  replace xl : Below w.heap.size w V.drew := below_drew1 xl
  go_region_held3 (fun W => W.cell? ⟨w.heap.size, 0, none⟩ = some (Value.slice A 0 c) ∧ W.cell? ⟨w.heap.size, 1, none⟩ = some (Value.string p0) ∧ W.cell? ⟨w.heap.size, 2, none⟩ = some (Value.string p1) ∧ W.cell? ⟨w.heap.size, 3, none⟩ = some (Value.string p2) ∧ W.cell? ⟨w.heap.size, 4, none⟩ = some (Value.string p3) ∧ W.cell? ⟨w.heap.size, 5, none⟩ = some (Value.string p4) ∧ W.cell? ⟨w.heap.size, 6, none⟩ = some (Value.string p5) ∧ W.cell? ⟨w.heap.size + 1, 0, none⟩ = some (Value.int .i64 x.f0) ∧ W.cell? ⟨w.heap.size + 1, 1, none⟩ = some (Value.bool x.f1) ∧ W.cell? ⟨w.heap.size + 1, 2, none⟩ = some (Value.int .i64 x.f2) ∧ W.cell? ⟨w.heap.size + 1, 3, none⟩ = some (Value.string x.f3) ∧ W.cell? ⟨w.heap.size + 1, 4, none⟩ = some (Value.string x.f4.f0) ∧ W.cell? ⟨w.heap.size + 1, 5, none⟩ = some (Value.string x.f4.f1) ∧ W.cell? ⟨w.heap.size + 1, 6, none⟩ = some (Value.slice (some ad) x.f5.length kc) ∧ W.cell? ad = some (Value.int .i64 k0.f0) ∧ W.cell? ⟨ad.block, ad.off + 1, none⟩ = some (Value.bool k0.f1) ∧ W.cell? ⟨ad.block, ad.off + 2, none⟩ = some (Value.int .i64 k0.f2) ∧ W.cell? ⟨ad.block, ad.off + 3, none⟩ = some (Value.string k0.f3) ∧ W.cell? ⟨ad.block, ad.off + 4, none⟩ = some (Value.string k0.f4.f0) ∧ W.cell? ⟨ad.block, ad.off + 5, none⟩ = some (Value.string k0.f4.f1) ∧ W.cell? ⟨ad.block, ad.off + 6, none⟩ = some (Value.slice Ak0 k0.f5.length ck0) ∧ Box W (w.heap.size + 1 + 1) ∧ Below w.heap.size w W)
    ((first | ((try go_split_ands); refine ⟨?_, ?_, ?_, ?_, ?_, ?_, ?_, ?_, ?_, ?_, ?_, ?_, ?_, ?_, ?_, ?_, ?_, ?_, ?_, ?_, ?_, ?_, ?_⟩ <;> first | (with_reducible assumption) | (with_reducible exact cell_after7 (by with_reducible assumption) (by omega)) | (with_reducible exact below_after7 (by with_reducible assumption) (by omega)) | (with_reducible exact Box.after7 (by with_reducible assumption) (by omega)) | (with_reducible exact (hb.cell (World.block_lt_of_cell? _ _ (by with_reducible assumption))).trans (by with_reducible assumption)) | (with_reducible exact below_step (by with_reducible assumption) hb) | (with_reducible exact Box.mono (by with_reducible assumption) hb))))
    ((go_at_call 158; refine (HA.out _ _ _ _ _ HLk0.out (Kd.C_below HCk0.out xl)).mono ?_; rintro e w' ⟨rfl, hb⟩))
  go_split_ands
  have g0 : w'.cell? ⟨w.heap.size, 0, none⟩ = some (Value.slice A 0 c) := by with_reducible assumption
  have g1 : w'.cell? ⟨w.heap.size, 1, none⟩ = some (Value.string p0) := by with_reducible assumption
  have g2 : w'.cell? ⟨w.heap.size, 2, none⟩ = some (Value.string p1) := by with_reducible assumption
  have g3 : w'.cell? ⟨w.heap.size, 3, none⟩ = some (Value.string p2) := by with_reducible assumption
  have g4 : w'.cell? ⟨w.heap.size, 4, none⟩ = some (Value.string p3) := by with_reducible assumption
  have g5 : w'.cell? ⟨w.heap.size, 5, none⟩ = some (Value.string p4) := by with_reducible assumption
  have g6 : w'.cell? ⟨w.heap.size, 6, none⟩ = some (Value.string p5) := by with_reducible assumption
  have e0 : w'.cell? ⟨w.heap.size + 1, 0, none⟩ = some (Value.int .i64 x.f0) := by with_reducible assumption
  have e1 : w'.cell? ⟨w.heap.size + 1, 1, none⟩ = some (Value.bool x.f1) := by with_reducible assumption
  have e2 : w'.cell? ⟨w.heap.size + 1, 2, none⟩ = some (Value.int .i64 x.f2) := by with_reducible assumption
  have e3 : w'.cell? ⟨w.heap.size + 1, 3, none⟩ = some (Value.string x.f3) := by with_reducible assumption
  have e4 : w'.cell? ⟨w.heap.size + 1, 4, none⟩ = some (Value.string x.f4.f0) := by with_reducible assumption
  have e5 : w'.cell? ⟨w.heap.size + 1, 5, none⟩ = some (Value.string x.f4.f1) := by with_reducible assumption
  have e6 : w'.cell? ⟨w.heap.size + 1, 6, none⟩ = some (Value.slice (some ad) x.f5.length kc) := by with_reducible assumption
  have HB1 : Aside0 (Below w.heap.size w w') := ⟨by with_reducible assumption⟩
  have HBX1 : Aside0 (Box w' (w.heap.size + 1 + 1)) := ⟨by with_reducible assumption⟩
  have hsz1 : w.heap.size + 1 + 1 < w'.heap.size := lt_of_heap HBX1.out
  obtain ⟨ad2, Ak1, ck1, e2_, y0, y1, y2, y3, y4, y5, y6, hlk1, hck1⟩ := exp_at HCC.out 1 k1 hkk1
  obtain rfl : ad = ad2 := by injection e2_
  have h1a : ((1 : Int) < (x.f5.length : Int)) = True := eq_true (by have := (List.getElem?_eq_some_iff.1 hkk1).1; omega)
  have h1n : 1 < x.f5.length := (List.getElem?_eq_some_iff.1 hkk1).1
  simp only [Nat.one_mul, Addr.add_7_] at y0 y1 y2 y3 y4 y5 y6
  have hadb0 := World.block_lt_of_cell? _ _ y0
  have hadb : ad.block < w.heap.size := hadb0
  clear hadb0
  replace y0 := (HB1.out.cell (World.block_lt_of_cell? _ _ y0)).trans y0
  replace y1 := (HB1.out.cell (World.block_lt_of_cell? _ _ y1)).trans y1
  replace y2 := (HB1.out.cell (World.block_lt_of_cell? _ _ y2)).trans y2
  replace y3 := (HB1.out.cell (World.block_lt_of_cell? _ _ y3)).trans y3
  replace y4 := (HB1.out.cell (World.block_lt_of_cell? _ _ y4)).trans y4
  replace y5 := (HB1.out.cell (World.block_lt_of_cell? _ _ y5)).trans y5
  replace y6 := (HB1.out.cell (World.block_lt_of_cell? _ _ y6)).trans y6
  have HLk1 := Aside0.mk hlk1
  have HCk1 := Aside0.mk hck1
  clear hlk1 hck1
  go_wp2_with fail
  replace g0 : w'.drew.cell? ⟨w.heap.size, 0, none⟩ = some (Value.slice A 0 c) := g0
  replace g1 : w'.drew.cell? ⟨w.heap.size, 1, none⟩ = some (Value.string p0) := g1
  replace g2 : w'.drew.cell? ⟨w.heap.size, 2, none⟩ = some (Value.string p1) := g2
  replace g3 : w'.drew.cell? ⟨w.heap.size, 3, none⟩ = some (Value.string p2) := g3
  replace g4 : w'.drew.cell? ⟨w.heap.size, 4, none⟩ = some (Value.string p3) := g4
  replace g5 : w'.drew.cell? ⟨w.heap.size, 5, none⟩ = some (Value.string p4) := g5
  replace g6 : w'.drew.cell? ⟨w.heap.size, 6, none⟩ = some (Value.string p5) := g6
  replace e0 : w'.drew.cell? ⟨w.heap.size + 1, 0, none⟩ = some (Value.int .i64 x.f0) := e0
  replace e1 : w'.drew.cell? ⟨w.heap.size + 1, 1, none⟩ = some (Value.bool x.f1) := e1
  replace e2 : w'.drew.cell? ⟨w.heap.size + 1, 2, none⟩ = some (Value.int .i64 x.f2) := e2
  replace e3 : w'.drew.cell? ⟨w.heap.size + 1, 3, none⟩ = some (Value.string x.f3) := e3
  replace e4 : w'.drew.cell? ⟨w.heap.size + 1, 4, none⟩ = some (Value.string x.f4.f0) := e4
  replace e5 : w'.drew.cell? ⟨w.heap.size + 1, 5, none⟩ = some (Value.string x.f4.f1) := e5
  replace e6 : w'.drew.cell? ⟨w.heap.size + 1, 6, none⟩ = some (Value.slice (some ad) x.f5.length kc) := e6
  replace y0 : w'.drew.cell? ⟨ad.block, ad.off + 7, none⟩ = some (Value.int .i64 k1.f0) := y0
  replace y1 : w'.drew.cell? ⟨ad.block, ad.off + 7 + 1, none⟩ = some (Value.bool k1.f1) := y1
  replace y2 : w'.drew.cell? ⟨ad.block, ad.off + 7 + 2, none⟩ = some (Value.int .i64 k1.f2) := y2
  replace y3 : w'.drew.cell? ⟨ad.block, ad.off + 7 + 3, none⟩ = some (Value.string k1.f3) := y3
  replace y4 : w'.drew.cell? ⟨ad.block, ad.off + 7 + 4, none⟩ = some (Value.string k1.f4.f0) := y4
  replace y5 : w'.drew.cell? ⟨ad.block, ad.off + 7 + 5, none⟩ = some (Value.string k1.f4.f1) := y5
  replace y6 : w'.drew.cell? ⟨ad.block, ad.off + 7 + 6, none⟩ = some (Value.slice Ak1 k1.f5.length ck1) := y6
  have xb : Box w'.drew (w.heap.size + 1 + 1) := HBX1.out
  have xl : Below w.heap.size w w'.drew := below_drew1 HB1.out
  have hsz : w.heap.size + 1 + 1 < w'.drew.heap.size := hsz1
  go_region_held3 (fun W => W.cell? ⟨w.heap.size, 0, none⟩ = some (Value.slice A 0 c) ∧ W.cell? ⟨w.heap.size, 1, none⟩ = some (Value.string p0) ∧ W.cell? ⟨w.heap.size, 2, none⟩ = some (Value.string p1) ∧ W.cell? ⟨w.heap.size, 3, none⟩ = some (Value.string p2) ∧ W.cell? ⟨w.heap.size, 4, none⟩ = some (Value.string p3) ∧ W.cell? ⟨w.heap.size, 5, none⟩ = some (Value.string p4) ∧ W.cell? ⟨w.heap.size, 6, none⟩ = some (Value.string p5) ∧ W.cell? ⟨w.heap.size + 1, 0, none⟩ = some (Value.int .i64 x.f0) ∧ W.cell? ⟨w.heap.size + 1, 1, none⟩ = some (Value.bool x.f1) ∧ W.cell? ⟨w.heap.size + 1, 2, none⟩ = some (Value.int .i64 x.f2) ∧ W.cell? ⟨w.heap.size + 1, 3, none⟩ = some (Value.string x.f3) ∧ W.cell? ⟨w.heap.size + 1, 4, none⟩ = some (Value.string x.f4.f0) ∧ W.cell? ⟨w.heap.size + 1, 5, none⟩ = some (Value.string x.f4.f1) ∧ W.cell? ⟨w.heap.size + 1, 6, none⟩ = some (Value.slice (some ad) x.f5.length kc) ∧ W.cell? ⟨ad.block, ad.off + 7, none⟩ = some (Value.int .i64 k1.f0) ∧ W.cell? ⟨ad.block, ad.off + 7 + 1, none⟩ = some (Value.bool k1.f1) ∧ W.cell? ⟨ad.block, ad.off + 7 + 2, none⟩ = some (Value.int .i64 k1.f2) ∧ W.cell? ⟨ad.block, ad.off + 7 + 3, none⟩ = some (Value.string k1.f3) ∧ W.cell? ⟨ad.block, ad.off + 7 + 4, none⟩ = some (Value.string k1.f4.f0) ∧ W.cell? ⟨ad.block, ad.off + 7 + 5, none⟩ = some (Value.string k1.f4.f1) ∧ W.cell? ⟨ad.block, ad.off + 7 + 6, none⟩ = some (Value.slice Ak1 k1.f5.length ck1) ∧ Below w.heap.size w W)
    ((first | ((try go_split_ands); refine ⟨?_, ?_, ?_, ?_, ?_, ?_, ?_, ?_, ?_, ?_, ?_, ?_, ?_, ?_, ?_, ?_, ?_, ?_, ?_, ?_, ?_, ?_⟩ <;> first | (with_reducible assumption) | (with_reducible exact cell_after7 (by with_reducible assumption) (by omega)) | (with_reducible exact below_after7 (by with_reducible assumption) (by omega)) | (with_reducible exact Box.after7 (by with_reducible assumption) (by omega)) | (with_reducible exact (hb.cell (World.block_lt_of_cell? _ _ (by with_reducible assumption))).trans (by with_reducible assumption)) | (with_reducible exact below_step (by with_reducible assumption) hb) | (with_reducible exact Box.mono (by with_reducible assumption) hb))))
    ((go_at_call 97; refine (HE.out _ _ _ _ _ HLk1.out (Kd.C_below HCk1.out xl)).mono ?_; rintro e w2 ⟨v6, rfl, hV, hb⟩; obtain ⟨A6, c6, rfl⟩ := Kd.V_slice hV; have HV := Aside0.mk hV; have HX2 : Aside0 (Box w2 (w.heap.size + 1 + 1)) := ⟨Box.mono xb hb⟩; have HB2 : Aside0 (Below w.heap.size w w2) := ⟨below_step xl hb⟩; have q0 := HX2.out.c0; have q1 := HX2.out.c1; have q2 := HX2.out.c2; have q3 := HX2.out.c3; have q4 := HX2.out.c4; have q5 := HX2.out.c5; have q6 := HX2.out.c6; have q7 := HX2.out.fr))
  go_wp2
  (try simp only [Exit.inBlock, Exit.then])
  have hd := HX2.out.done (.int .i64 r.f0) (.bool r.f1) (.int .i64 r.f2) (.string r.f3) (.string r.f4.f0) (.string r.f4.f1) (.slice A6 r.f5.length c6)
  have hbl := HB2.out.trans (below_cells (B := w.heap.size) (w.heap.size + 1 + 1) (by omega) [.int .i64 r.f0, .bool r.f1, .int .i64 r.f2, .string r.f3, .string r.f4.f0, .string r.f4.f1, .slice A6 r.f5.length c6] 0 w2)
  simp only [World.setCells] at hd hbl
  refine bodyPost_ret (results_row_tmp rfl _ _ (w.heap.size + 1 + 1) 31 _ (0, 0) _ rfl hd Try.underlying31 rfl (by kernel_rfl)) rfl ?_
  exact ⟨_, rfl, Kd.V_mono (Kd.V_step HV.out (fun k_ hk _ => heap_after7 _ _ _ _ _ _ _ (by omega))) (fun k_ hk => by omega), hbl⟩
set_option maxRecDepth 100000 in
set_option maxHeartbeats 16000000 in
theorem choice_if_false (p0 p1 p2 p3 p4 p5 : ByteArray) (x k0 k2 : S67) (hkk0 : x.f5[0]? = some k0) (hkk2 : x.f5[2]? = some k2) (hop : x.f0 = 25) (h : AskOk p0 p1 p2 p3 p4 p5 k0 false 0) (r : S31) (er : Int) (h2 : ExprOk p0 p1 p2 p3 p4 p5 k2 r er) (A : Option Addr) (c : Nat) (B : Option Addr) (kc : Nat) (w : World) (hl : x.f5.length ≤ kc) (hC : k67.C w B x.f5.length x.f5) :
    Calls Try.prog 137 #[.agg #[.slice A 0 c, .string p0, .string p1, .string p2, .string p3, .string p4, .string p5], .agg #[.int .i64 x.f0, .bool x.f1, .int .i64 x.f2, .string x.f3, .string x.f4.f0, .string x.f4.f1, .slice B x.f5.length kc]] w (Gives w r er) := by
  have HA := Aside0.mk h
  have HE := Aside0.mk h2
  have hop1 : (x.f0 == 25) = true := beq_iff_eq.mpr hop
  clear h h2 hop
  obtain ⟨ad, Ak0, ck0, rfl, z0, z1, z2, z3, z4, z5, z6, hlk0, hck0⟩ := exp_at hC 0 k0 hkk0
  have h0a : ((0 : Int) < (x.f5.length : Int)) = True := eq_true (by have := (List.getElem?_eq_some_iff.1 hkk0).1; omega)
  have h0n : 0 < x.f5.length := (List.getElem?_eq_some_iff.1 hkk0).1
  simp only [Nat.zero_mul, Addr.add_zero_] at z0 z1 z2 z3 z4 z5 z6
  have HLk0 := Aside0.mk hlk0
  have HCk0 := Aside0.mk hck0
  have HCC := Aside0.mk hC
  clear hlk0 hck0 hC
  go_enter Try.func137, Try.ntmps137
  go_wp2_with fail
  have g0 : (((w.alloc (Obj.cells #[.slice A 0 c, .string p0, .string p1, .string p2, .string p3, .string p4, .string p5] 151)).alloc (Obj.cells #[.int .i64 x.f0, .bool x.f1, .int .i64 x.f2, .string x.f3, .string x.f4.f0, .string x.f4.f1, .slice (some ad) x.f5.length kc] 67)).alloc (Obj.cells #[.int .i64 0, .bool false, .int .i64 0, .string ⟨#[]⟩, .string ⟨#[]⟩, .string ⟨#[]⟩, .slice none 0 0] 31)).cell? ⟨w.heap.size, 0, none⟩ = some (Value.slice A 0 c) := by go_simp
  have g1 : (((w.alloc (Obj.cells #[.slice A 0 c, .string p0, .string p1, .string p2, .string p3, .string p4, .string p5] 151)).alloc (Obj.cells #[.int .i64 x.f0, .bool x.f1, .int .i64 x.f2, .string x.f3, .string x.f4.f0, .string x.f4.f1, .slice (some ad) x.f5.length kc] 67)).alloc (Obj.cells #[.int .i64 0, .bool false, .int .i64 0, .string ⟨#[]⟩, .string ⟨#[]⟩, .string ⟨#[]⟩, .slice none 0 0] 31)).cell? ⟨w.heap.size, 1, none⟩ = some (Value.string p0) := by go_simp
  have g2 : (((w.alloc (Obj.cells #[.slice A 0 c, .string p0, .string p1, .string p2, .string p3, .string p4, .string p5] 151)).alloc (Obj.cells #[.int .i64 x.f0, .bool x.f1, .int .i64 x.f2, .string x.f3, .string x.f4.f0, .string x.f4.f1, .slice (some ad) x.f5.length kc] 67)).alloc (Obj.cells #[.int .i64 0, .bool false, .int .i64 0, .string ⟨#[]⟩, .string ⟨#[]⟩, .string ⟨#[]⟩, .slice none 0 0] 31)).cell? ⟨w.heap.size, 2, none⟩ = some (Value.string p1) := by go_simp
  have g3 : (((w.alloc (Obj.cells #[.slice A 0 c, .string p0, .string p1, .string p2, .string p3, .string p4, .string p5] 151)).alloc (Obj.cells #[.int .i64 x.f0, .bool x.f1, .int .i64 x.f2, .string x.f3, .string x.f4.f0, .string x.f4.f1, .slice (some ad) x.f5.length kc] 67)).alloc (Obj.cells #[.int .i64 0, .bool false, .int .i64 0, .string ⟨#[]⟩, .string ⟨#[]⟩, .string ⟨#[]⟩, .slice none 0 0] 31)).cell? ⟨w.heap.size, 3, none⟩ = some (Value.string p2) := by go_simp
  have g4 : (((w.alloc (Obj.cells #[.slice A 0 c, .string p0, .string p1, .string p2, .string p3, .string p4, .string p5] 151)).alloc (Obj.cells #[.int .i64 x.f0, .bool x.f1, .int .i64 x.f2, .string x.f3, .string x.f4.f0, .string x.f4.f1, .slice (some ad) x.f5.length kc] 67)).alloc (Obj.cells #[.int .i64 0, .bool false, .int .i64 0, .string ⟨#[]⟩, .string ⟨#[]⟩, .string ⟨#[]⟩, .slice none 0 0] 31)).cell? ⟨w.heap.size, 4, none⟩ = some (Value.string p3) := by go_simp
  have g5 : (((w.alloc (Obj.cells #[.slice A 0 c, .string p0, .string p1, .string p2, .string p3, .string p4, .string p5] 151)).alloc (Obj.cells #[.int .i64 x.f0, .bool x.f1, .int .i64 x.f2, .string x.f3, .string x.f4.f0, .string x.f4.f1, .slice (some ad) x.f5.length kc] 67)).alloc (Obj.cells #[.int .i64 0, .bool false, .int .i64 0, .string ⟨#[]⟩, .string ⟨#[]⟩, .string ⟨#[]⟩, .slice none 0 0] 31)).cell? ⟨w.heap.size, 5, none⟩ = some (Value.string p4) := by go_simp
  have g6 : (((w.alloc (Obj.cells #[.slice A 0 c, .string p0, .string p1, .string p2, .string p3, .string p4, .string p5] 151)).alloc (Obj.cells #[.int .i64 x.f0, .bool x.f1, .int .i64 x.f2, .string x.f3, .string x.f4.f0, .string x.f4.f1, .slice (some ad) x.f5.length kc] 67)).alloc (Obj.cells #[.int .i64 0, .bool false, .int .i64 0, .string ⟨#[]⟩, .string ⟨#[]⟩, .string ⟨#[]⟩, .slice none 0 0] 31)).cell? ⟨w.heap.size, 6, none⟩ = some (Value.string p5) := by go_simp
  have e0 : (((w.alloc (Obj.cells #[.slice A 0 c, .string p0, .string p1, .string p2, .string p3, .string p4, .string p5] 151)).alloc (Obj.cells #[.int .i64 x.f0, .bool x.f1, .int .i64 x.f2, .string x.f3, .string x.f4.f0, .string x.f4.f1, .slice (some ad) x.f5.length kc] 67)).alloc (Obj.cells #[.int .i64 0, .bool false, .int .i64 0, .string ⟨#[]⟩, .string ⟨#[]⟩, .string ⟨#[]⟩, .slice none 0 0] 31)).cell? ⟨w.heap.size + 1, 0, none⟩ = some (Value.int .i64 x.f0) := by go_simp
  have e1 : (((w.alloc (Obj.cells #[.slice A 0 c, .string p0, .string p1, .string p2, .string p3, .string p4, .string p5] 151)).alloc (Obj.cells #[.int .i64 x.f0, .bool x.f1, .int .i64 x.f2, .string x.f3, .string x.f4.f0, .string x.f4.f1, .slice (some ad) x.f5.length kc] 67)).alloc (Obj.cells #[.int .i64 0, .bool false, .int .i64 0, .string ⟨#[]⟩, .string ⟨#[]⟩, .string ⟨#[]⟩, .slice none 0 0] 31)).cell? ⟨w.heap.size + 1, 1, none⟩ = some (Value.bool x.f1) := by go_simp
  have e2 : (((w.alloc (Obj.cells #[.slice A 0 c, .string p0, .string p1, .string p2, .string p3, .string p4, .string p5] 151)).alloc (Obj.cells #[.int .i64 x.f0, .bool x.f1, .int .i64 x.f2, .string x.f3, .string x.f4.f0, .string x.f4.f1, .slice (some ad) x.f5.length kc] 67)).alloc (Obj.cells #[.int .i64 0, .bool false, .int .i64 0, .string ⟨#[]⟩, .string ⟨#[]⟩, .string ⟨#[]⟩, .slice none 0 0] 31)).cell? ⟨w.heap.size + 1, 2, none⟩ = some (Value.int .i64 x.f2) := by go_simp
  have e3 : (((w.alloc (Obj.cells #[.slice A 0 c, .string p0, .string p1, .string p2, .string p3, .string p4, .string p5] 151)).alloc (Obj.cells #[.int .i64 x.f0, .bool x.f1, .int .i64 x.f2, .string x.f3, .string x.f4.f0, .string x.f4.f1, .slice (some ad) x.f5.length kc] 67)).alloc (Obj.cells #[.int .i64 0, .bool false, .int .i64 0, .string ⟨#[]⟩, .string ⟨#[]⟩, .string ⟨#[]⟩, .slice none 0 0] 31)).cell? ⟨w.heap.size + 1, 3, none⟩ = some (Value.string x.f3) := by go_simp
  have e4 : (((w.alloc (Obj.cells #[.slice A 0 c, .string p0, .string p1, .string p2, .string p3, .string p4, .string p5] 151)).alloc (Obj.cells #[.int .i64 x.f0, .bool x.f1, .int .i64 x.f2, .string x.f3, .string x.f4.f0, .string x.f4.f1, .slice (some ad) x.f5.length kc] 67)).alloc (Obj.cells #[.int .i64 0, .bool false, .int .i64 0, .string ⟨#[]⟩, .string ⟨#[]⟩, .string ⟨#[]⟩, .slice none 0 0] 31)).cell? ⟨w.heap.size + 1, 4, none⟩ = some (Value.string x.f4.f0) := by go_simp
  have e5 : (((w.alloc (Obj.cells #[.slice A 0 c, .string p0, .string p1, .string p2, .string p3, .string p4, .string p5] 151)).alloc (Obj.cells #[.int .i64 x.f0, .bool x.f1, .int .i64 x.f2, .string x.f3, .string x.f4.f0, .string x.f4.f1, .slice (some ad) x.f5.length kc] 67)).alloc (Obj.cells #[.int .i64 0, .bool false, .int .i64 0, .string ⟨#[]⟩, .string ⟨#[]⟩, .string ⟨#[]⟩, .slice none 0 0] 31)).cell? ⟨w.heap.size + 1, 5, none⟩ = some (Value.string x.f4.f1) := by go_simp
  have e6 : (((w.alloc (Obj.cells #[.slice A 0 c, .string p0, .string p1, .string p2, .string p3, .string p4, .string p5] 151)).alloc (Obj.cells #[.int .i64 x.f0, .bool x.f1, .int .i64 x.f2, .string x.f3, .string x.f4.f0, .string x.f4.f1, .slice (some ad) x.f5.length kc] 67)).alloc (Obj.cells #[.int .i64 0, .bool false, .int .i64 0, .string ⟨#[]⟩, .string ⟨#[]⟩, .string ⟨#[]⟩, .slice none 0 0] 31)).cell? ⟨w.heap.size + 1, 6, none⟩ = some (Value.slice (some ad) x.f5.length kc) := by go_simp
  have xl : Below w.heap.size w (((w.alloc (Obj.cells #[.slice A 0 c, .string p0, .string p1, .string p2, .string p3, .string p4, .string p5] 151)).alloc (Obj.cells #[.int .i64 x.f0, .bool x.f1, .int .i64 x.f2, .string x.f3, .string x.f4.f0, .string x.f4.f1, .slice (some ad) x.f5.length kc] 67)).alloc (Obj.cells #[.int .i64 0, .bool false, .int .i64 0, .string ⟨#[]⟩, .string ⟨#[]⟩, .string ⟨#[]⟩, .slice none 0 0] 31)) := by repeat (first | exact Below.refl _ _ | apply below_alloc)
  replace z0 := (xl.cell (World.block_lt_of_cell? _ _ z0)).trans z0
  replace z1 := (xl.cell (World.block_lt_of_cell? _ _ z1)).trans z1
  replace z2 := (xl.cell (World.block_lt_of_cell? _ _ z2)).trans z2
  replace z3 := (xl.cell (World.block_lt_of_cell? _ _ z3)).trans z3
  replace z4 := (xl.cell (World.block_lt_of_cell? _ _ z4)).trans z4
  replace z5 := (xl.cell (World.block_lt_of_cell? _ _ z5)).trans z5
  replace z6 := (xl.cell (World.block_lt_of_cell? _ _ z6)).trans z6
  have xb : Box (((w.alloc (Obj.cells #[.slice A 0 c, .string p0, .string p1, .string p2, .string p3, .string p4, .string p5] 151)).alloc (Obj.cells #[.int .i64 x.f0, .bool x.f1, .int .i64 x.f2, .string x.f3, .string x.f4.f0, .string x.f4.f1, .slice (some ad) x.f5.length kc] 67)).alloc (Obj.cells #[.int .i64 0, .bool false, .int .i64 0, .string ⟨#[]⟩, .string ⟨#[]⟩, .string ⟨#[]⟩, .slice none 0 0] 31)) (w.heap.size + 1 + 1) := (by repeat (first | exact blk_at _ _ _ (by simp; done) | (refine (Below.heap_alloc _ _ _ (by first | (simp; done) | (simp; omega))).trans ?_)))
  generalize (((w.alloc (Obj.cells #[.slice A 0 c, .string p0, .string p1, .string p2, .string p3, .string p4, .string p5] 151)).alloc (Obj.cells #[.int .i64 x.f0, .bool x.f1, .int .i64 x.f2, .string x.f3, .string x.f4.f0, .string x.f4.f1, .slice (some ad) x.f5.length kc] 67)).alloc (Obj.cells #[.int .i64 0, .bool false, .int .i64 0, .string ⟨#[]⟩, .string ⟨#[]⟩, .string ⟨#[]⟩, .slice none 0 0] 31)) = V at g0 g1 g2 g3 g4 g5 g6 e0 e1 e2 e3 e4 e5 e6 z0 z1 z2 z3 z4 z5 z6 xb xl ⊢
  replace g0 : V.drew.cell? ⟨w.heap.size, 0, none⟩ = some (Value.slice A 0 c) := g0
  replace g1 : V.drew.cell? ⟨w.heap.size, 1, none⟩ = some (Value.string p0) := g1
  replace g2 : V.drew.cell? ⟨w.heap.size, 2, none⟩ = some (Value.string p1) := g2
  replace g3 : V.drew.cell? ⟨w.heap.size, 3, none⟩ = some (Value.string p2) := g3
  replace g4 : V.drew.cell? ⟨w.heap.size, 4, none⟩ = some (Value.string p3) := g4
  replace g5 : V.drew.cell? ⟨w.heap.size, 5, none⟩ = some (Value.string p4) := g5
  replace g6 : V.drew.cell? ⟨w.heap.size, 6, none⟩ = some (Value.string p5) := g6
  replace e0 : V.drew.cell? ⟨w.heap.size + 1, 0, none⟩ = some (Value.int .i64 x.f0) := e0
  replace e1 : V.drew.cell? ⟨w.heap.size + 1, 1, none⟩ = some (Value.bool x.f1) := e1
  replace e2 : V.drew.cell? ⟨w.heap.size + 1, 2, none⟩ = some (Value.int .i64 x.f2) := e2
  replace e3 : V.drew.cell? ⟨w.heap.size + 1, 3, none⟩ = some (Value.string x.f3) := e3
  replace e4 : V.drew.cell? ⟨w.heap.size + 1, 4, none⟩ = some (Value.string x.f4.f0) := e4
  replace e5 : V.drew.cell? ⟨w.heap.size + 1, 5, none⟩ = some (Value.string x.f4.f1) := e5
  replace e6 : V.drew.cell? ⟨w.heap.size + 1, 6, none⟩ = some (Value.slice (some ad) x.f5.length kc) := e6
  replace z0 : V.drew.cell? ad = some (Value.int .i64 k0.f0) := z0
  replace z1 : V.drew.cell? ⟨ad.block, ad.off + 1, none⟩ = some (Value.bool k0.f1) := z1
  replace z2 : V.drew.cell? ⟨ad.block, ad.off + 2, none⟩ = some (Value.int .i64 k0.f2) := z2
  replace z3 : V.drew.cell? ⟨ad.block, ad.off + 3, none⟩ = some (Value.string k0.f3) := z3
  replace z4 : V.drew.cell? ⟨ad.block, ad.off + 4, none⟩ = some (Value.string k0.f4.f0) := z4
  replace z5 : V.drew.cell? ⟨ad.block, ad.off + 5, none⟩ = some (Value.string k0.f4.f1) := z5
  replace z6 : V.drew.cell? ⟨ad.block, ad.off + 6, none⟩ = some (Value.slice Ak0 k0.f5.length ck0) := z6
  replace xb : Box V.drew (w.heap.size + 1 + 1) := xb
  replace xl : Below w.heap.size w V.drew := below_drew1 xl
  go_region_held3 (fun W => W.cell? ⟨w.heap.size, 0, none⟩ = some (Value.slice A 0 c) ∧ W.cell? ⟨w.heap.size, 1, none⟩ = some (Value.string p0) ∧ W.cell? ⟨w.heap.size, 2, none⟩ = some (Value.string p1) ∧ W.cell? ⟨w.heap.size, 3, none⟩ = some (Value.string p2) ∧ W.cell? ⟨w.heap.size, 4, none⟩ = some (Value.string p3) ∧ W.cell? ⟨w.heap.size, 5, none⟩ = some (Value.string p4) ∧ W.cell? ⟨w.heap.size, 6, none⟩ = some (Value.string p5) ∧ W.cell? ⟨w.heap.size + 1, 0, none⟩ = some (Value.int .i64 x.f0) ∧ W.cell? ⟨w.heap.size + 1, 1, none⟩ = some (Value.bool x.f1) ∧ W.cell? ⟨w.heap.size + 1, 2, none⟩ = some (Value.int .i64 x.f2) ∧ W.cell? ⟨w.heap.size + 1, 3, none⟩ = some (Value.string x.f3) ∧ W.cell? ⟨w.heap.size + 1, 4, none⟩ = some (Value.string x.f4.f0) ∧ W.cell? ⟨w.heap.size + 1, 5, none⟩ = some (Value.string x.f4.f1) ∧ W.cell? ⟨w.heap.size + 1, 6, none⟩ = some (Value.slice (some ad) x.f5.length kc) ∧ W.cell? ad = some (Value.int .i64 k0.f0) ∧ W.cell? ⟨ad.block, ad.off + 1, none⟩ = some (Value.bool k0.f1) ∧ W.cell? ⟨ad.block, ad.off + 2, none⟩ = some (Value.int .i64 k0.f2) ∧ W.cell? ⟨ad.block, ad.off + 3, none⟩ = some (Value.string k0.f3) ∧ W.cell? ⟨ad.block, ad.off + 4, none⟩ = some (Value.string k0.f4.f0) ∧ W.cell? ⟨ad.block, ad.off + 5, none⟩ = some (Value.string k0.f4.f1) ∧ W.cell? ⟨ad.block, ad.off + 6, none⟩ = some (Value.slice Ak0 k0.f5.length ck0) ∧ Box W (w.heap.size + 1 + 1) ∧ Below w.heap.size w W)
    ((first | ((try go_split_ands); refine ⟨?_, ?_, ?_, ?_, ?_, ?_, ?_, ?_, ?_, ?_, ?_, ?_, ?_, ?_, ?_, ?_, ?_, ?_, ?_, ?_, ?_, ?_, ?_⟩ <;> first | (with_reducible assumption) | (with_reducible exact cell_after7 (by with_reducible assumption) (by omega)) | (with_reducible exact below_after7 (by with_reducible assumption) (by omega)) | (with_reducible exact Box.after7 (by with_reducible assumption) (by omega)) | (with_reducible exact (hb.cell (World.block_lt_of_cell? _ _ (by with_reducible assumption))).trans (by with_reducible assumption)) | (with_reducible exact below_step (by with_reducible assumption) hb) | (with_reducible exact Box.mono (by with_reducible assumption) hb))))
    ((go_at_call 158; refine (HA.out _ _ _ _ _ HLk0.out (Kd.C_below HCk0.out xl)).mono ?_; rintro e w' ⟨rfl, hb⟩))
  go_split_ands
  have g0 : w'.cell? ⟨w.heap.size, 0, none⟩ = some (Value.slice A 0 c) := by with_reducible assumption
  have g1 : w'.cell? ⟨w.heap.size, 1, none⟩ = some (Value.string p0) := by with_reducible assumption
  have g2 : w'.cell? ⟨w.heap.size, 2, none⟩ = some (Value.string p1) := by with_reducible assumption
  have g3 : w'.cell? ⟨w.heap.size, 3, none⟩ = some (Value.string p2) := by with_reducible assumption
  have g4 : w'.cell? ⟨w.heap.size, 4, none⟩ = some (Value.string p3) := by with_reducible assumption
  have g5 : w'.cell? ⟨w.heap.size, 5, none⟩ = some (Value.string p4) := by with_reducible assumption
  have g6 : w'.cell? ⟨w.heap.size, 6, none⟩ = some (Value.string p5) := by with_reducible assumption
  have e0 : w'.cell? ⟨w.heap.size + 1, 0, none⟩ = some (Value.int .i64 x.f0) := by with_reducible assumption
  have e1 : w'.cell? ⟨w.heap.size + 1, 1, none⟩ = some (Value.bool x.f1) := by with_reducible assumption
  have e2 : w'.cell? ⟨w.heap.size + 1, 2, none⟩ = some (Value.int .i64 x.f2) := by with_reducible assumption
  have e3 : w'.cell? ⟨w.heap.size + 1, 3, none⟩ = some (Value.string x.f3) := by with_reducible assumption
  have e4 : w'.cell? ⟨w.heap.size + 1, 4, none⟩ = some (Value.string x.f4.f0) := by with_reducible assumption
  have e5 : w'.cell? ⟨w.heap.size + 1, 5, none⟩ = some (Value.string x.f4.f1) := by with_reducible assumption
  have e6 : w'.cell? ⟨w.heap.size + 1, 6, none⟩ = some (Value.slice (some ad) x.f5.length kc) := by with_reducible assumption
  have HB1 : Aside0 (Below w.heap.size w w') := ⟨by with_reducible assumption⟩
  have HBX1 : Aside0 (Box w' (w.heap.size + 1 + 1)) := ⟨by with_reducible assumption⟩
  have hsz1 : w.heap.size + 1 + 1 < w'.heap.size := lt_of_heap HBX1.out
  obtain ⟨ad2, Ak2, ck2, e2_, y0, y1, y2, y3, y4, y5, y6, hlk2, hck2⟩ := exp_at HCC.out 2 k2 hkk2
  obtain rfl : ad = ad2 := by injection e2_
  have h2a : ((2 : Int) < (x.f5.length : Int)) = True := eq_true (by have := (List.getElem?_eq_some_iff.1 hkk2).1; omega)
  have h2n : 2 < x.f5.length := (List.getElem?_eq_some_iff.1 hkk2).1
  simp only [show 2 * 7 = 14 from rfl, Addr.add_14_] at y0 y1 y2 y3 y4 y5 y6
  have hadb0 := World.block_lt_of_cell? _ _ y0
  have hadb : ad.block < w.heap.size := hadb0
  clear hadb0
  replace y0 := (HB1.out.cell (World.block_lt_of_cell? _ _ y0)).trans y0
  replace y1 := (HB1.out.cell (World.block_lt_of_cell? _ _ y1)).trans y1
  replace y2 := (HB1.out.cell (World.block_lt_of_cell? _ _ y2)).trans y2
  replace y3 := (HB1.out.cell (World.block_lt_of_cell? _ _ y3)).trans y3
  replace y4 := (HB1.out.cell (World.block_lt_of_cell? _ _ y4)).trans y4
  replace y5 := (HB1.out.cell (World.block_lt_of_cell? _ _ y5)).trans y5
  replace y6 := (HB1.out.cell (World.block_lt_of_cell? _ _ y6)).trans y6
  have HLk2 := Aside0.mk hlk2
  have HCk2 := Aside0.mk hck2
  clear hlk2 hck2
  go_wp2_with fail
  replace g0 : w'.drew.cell? ⟨w.heap.size, 0, none⟩ = some (Value.slice A 0 c) := g0
  replace g1 : w'.drew.cell? ⟨w.heap.size, 1, none⟩ = some (Value.string p0) := g1
  replace g2 : w'.drew.cell? ⟨w.heap.size, 2, none⟩ = some (Value.string p1) := g2
  replace g3 : w'.drew.cell? ⟨w.heap.size, 3, none⟩ = some (Value.string p2) := g3
  replace g4 : w'.drew.cell? ⟨w.heap.size, 4, none⟩ = some (Value.string p3) := g4
  replace g5 : w'.drew.cell? ⟨w.heap.size, 5, none⟩ = some (Value.string p4) := g5
  replace g6 : w'.drew.cell? ⟨w.heap.size, 6, none⟩ = some (Value.string p5) := g6
  replace e0 : w'.drew.cell? ⟨w.heap.size + 1, 0, none⟩ = some (Value.int .i64 x.f0) := e0
  replace e1 : w'.drew.cell? ⟨w.heap.size + 1, 1, none⟩ = some (Value.bool x.f1) := e1
  replace e2 : w'.drew.cell? ⟨w.heap.size + 1, 2, none⟩ = some (Value.int .i64 x.f2) := e2
  replace e3 : w'.drew.cell? ⟨w.heap.size + 1, 3, none⟩ = some (Value.string x.f3) := e3
  replace e4 : w'.drew.cell? ⟨w.heap.size + 1, 4, none⟩ = some (Value.string x.f4.f0) := e4
  replace e5 : w'.drew.cell? ⟨w.heap.size + 1, 5, none⟩ = some (Value.string x.f4.f1) := e5
  replace e6 : w'.drew.cell? ⟨w.heap.size + 1, 6, none⟩ = some (Value.slice (some ad) x.f5.length kc) := e6
  replace y0 : w'.drew.cell? ⟨ad.block, ad.off + 14, none⟩ = some (Value.int .i64 k2.f0) := y0
  replace y1 : w'.drew.cell? ⟨ad.block, ad.off + 14 + 1, none⟩ = some (Value.bool k2.f1) := y1
  replace y2 : w'.drew.cell? ⟨ad.block, ad.off + 14 + 2, none⟩ = some (Value.int .i64 k2.f2) := y2
  replace y3 : w'.drew.cell? ⟨ad.block, ad.off + 14 + 3, none⟩ = some (Value.string k2.f3) := y3
  replace y4 : w'.drew.cell? ⟨ad.block, ad.off + 14 + 4, none⟩ = some (Value.string k2.f4.f0) := y4
  replace y5 : w'.drew.cell? ⟨ad.block, ad.off + 14 + 5, none⟩ = some (Value.string k2.f4.f1) := y5
  replace y6 : w'.drew.cell? ⟨ad.block, ad.off + 14 + 6, none⟩ = some (Value.slice Ak2 k2.f5.length ck2) := y6
  have xb : Box w'.drew (w.heap.size + 1 + 1) := HBX1.out
  have xl : Below w.heap.size w w'.drew := below_drew1 HB1.out
  have hsz : w.heap.size + 1 + 1 < w'.drew.heap.size := hsz1
  go_region_held3 (fun W => W.cell? ⟨w.heap.size, 0, none⟩ = some (Value.slice A 0 c) ∧ W.cell? ⟨w.heap.size, 1, none⟩ = some (Value.string p0) ∧ W.cell? ⟨w.heap.size, 2, none⟩ = some (Value.string p1) ∧ W.cell? ⟨w.heap.size, 3, none⟩ = some (Value.string p2) ∧ W.cell? ⟨w.heap.size, 4, none⟩ = some (Value.string p3) ∧ W.cell? ⟨w.heap.size, 5, none⟩ = some (Value.string p4) ∧ W.cell? ⟨w.heap.size, 6, none⟩ = some (Value.string p5) ∧ W.cell? ⟨w.heap.size + 1, 0, none⟩ = some (Value.int .i64 x.f0) ∧ W.cell? ⟨w.heap.size + 1, 1, none⟩ = some (Value.bool x.f1) ∧ W.cell? ⟨w.heap.size + 1, 2, none⟩ = some (Value.int .i64 x.f2) ∧ W.cell? ⟨w.heap.size + 1, 3, none⟩ = some (Value.string x.f3) ∧ W.cell? ⟨w.heap.size + 1, 4, none⟩ = some (Value.string x.f4.f0) ∧ W.cell? ⟨w.heap.size + 1, 5, none⟩ = some (Value.string x.f4.f1) ∧ W.cell? ⟨w.heap.size + 1, 6, none⟩ = some (Value.slice (some ad) x.f5.length kc) ∧ W.cell? ⟨ad.block, ad.off + 14, none⟩ = some (Value.int .i64 k2.f0) ∧ W.cell? ⟨ad.block, ad.off + 14 + 1, none⟩ = some (Value.bool k2.f1) ∧ W.cell? ⟨ad.block, ad.off + 14 + 2, none⟩ = some (Value.int .i64 k2.f2) ∧ W.cell? ⟨ad.block, ad.off + 14 + 3, none⟩ = some (Value.string k2.f3) ∧ W.cell? ⟨ad.block, ad.off + 14 + 4, none⟩ = some (Value.string k2.f4.f0) ∧ W.cell? ⟨ad.block, ad.off + 14 + 5, none⟩ = some (Value.string k2.f4.f1) ∧ W.cell? ⟨ad.block, ad.off + 14 + 6, none⟩ = some (Value.slice Ak2 k2.f5.length ck2) ∧ Below w.heap.size w W)
    ((first | ((try go_split_ands); refine ⟨?_, ?_, ?_, ?_, ?_, ?_, ?_, ?_, ?_, ?_, ?_, ?_, ?_, ?_, ?_, ?_, ?_, ?_, ?_, ?_, ?_, ?_⟩ <;> first | (with_reducible assumption) | (with_reducible exact cell_after7 (by with_reducible assumption) (by omega)) | (with_reducible exact below_after7 (by with_reducible assumption) (by omega)) | (with_reducible exact Box.after7 (by with_reducible assumption) (by omega)) | (with_reducible exact (hb.cell (World.block_lt_of_cell? _ _ (by with_reducible assumption))).trans (by with_reducible assumption)) | (with_reducible exact below_step (by with_reducible assumption) hb) | (with_reducible exact Box.mono (by with_reducible assumption) hb))))
    ((go_at_call 97; refine (HE.out _ _ _ _ _ HLk2.out (Kd.C_below HCk2.out xl)).mono ?_; rintro e w2 ⟨v6, rfl, hV, hb⟩; obtain ⟨A6, c6, rfl⟩ := Kd.V_slice hV; have HV := Aside0.mk hV; have HX2 : Aside0 (Box w2 (w.heap.size + 1 + 1)) := ⟨Box.mono xb hb⟩; have HB2 : Aside0 (Below w.heap.size w w2) := ⟨below_step xl hb⟩; have q0 := HX2.out.c0; have q1 := HX2.out.c1; have q2 := HX2.out.c2; have q3 := HX2.out.c3; have q4 := HX2.out.c4; have q5 := HX2.out.c5; have q6 := HX2.out.c6; have q7 := HX2.out.fr))
  go_wp2
  (try simp only [Exit.inBlock, Exit.then])
  have hd := HX2.out.done (.int .i64 r.f0) (.bool r.f1) (.int .i64 r.f2) (.string r.f3) (.string r.f4.f0) (.string r.f4.f1) (.slice A6 r.f5.length c6)
  have hbl := HB2.out.trans (below_cells (B := w.heap.size) (w.heap.size + 1 + 1) (by omega) [.int .i64 r.f0, .bool r.f1, .int .i64 r.f2, .string r.f3, .string r.f4.f0, .string r.f4.f1, .slice A6 r.f5.length c6] 0 w2)
  simp only [World.setCells] at hd hbl
  refine bodyPost_ret (results_row_tmp rfl _ _ (w.heap.size + 1 + 1) 31 _ (0, 0) _ rfl hd Try.underlying31 rfl (by kernel_rfl)) rfl ?_
  exact ⟨_, rfl, Kd.V_mono (Kd.V_step HV.out (fun k_ hk _ => heap_after7 _ _ _ _ _ _ _ (by omega))) (fun k_ hk => by omega), hbl⟩
set_option maxRecDepth 100000 in
set_option maxHeartbeats 16000000 in
theorem choice_and (p0 p1 p2 p3 p4 p5 : ByteArray) (x k0 : S67) (hkk0 : x.f5[0]? = some k0) (hop : x.f0 ≠ 24) (hop5 : x.f0 ≠ 25) (h : AskOk p0 p1 p2 p3 p4 p5 k0 false 0) (A : Option Addr) (c : Nat) (B : Option Addr) (kc : Nat) (w : World) (hl : x.f5.length ≤ kc) (hC : k67.C w B x.f5.length x.f5) :
    Calls Try.prog 137 #[.agg #[.slice A 0 c, .string p0, .string p1, .string p2, .string p3, .string p4, .string p5], .agg #[.int .i64 x.f0, .bool x.f1, .int .i64 x.f2, .string x.f3, .string x.f4.f0, .string x.f4.f1, .slice B x.f5.length kc]] w (Gives w (trV false) 0) := by
  have HA := Aside0.mk h
  have hk := back_tr false
  clear h
  have hop1 : (x.f0 == 24) = false := beq_eq_false_iff_ne.mpr hop
  have hop2 : (x.f0 == 25) = false := beq_eq_false_iff_ne.mpr hop5
  clear hop hop5
  obtain ⟨ad, Ak0, ck0, rfl, z0, z1, z2, z3, z4, z5, z6, hlk0, hck0⟩ := exp_at hC 0 k0 hkk0
  have h0a : ((0 : Int) < (x.f5.length : Int)) = True := eq_true (by have := (List.getElem?_eq_some_iff.1 hkk0).1; omega)
  have h0n : 0 < x.f5.length := (List.getElem?_eq_some_iff.1 hkk0).1
  simp only [Nat.zero_mul, Addr.add_zero_] at z0 z1 z2 z3 z4 z5 z6
  have HLk0 := Aside0.mk hlk0
  have HCk0 := Aside0.mk hck0
  have HCC := Aside0.mk hC
  clear hlk0 hck0 hC
  go_enter Try.func137, Try.ntmps137
  go_wp2_with fail
  have g0 : (((w.alloc (Obj.cells #[.slice A 0 c, .string p0, .string p1, .string p2, .string p3, .string p4, .string p5] 151)).alloc (Obj.cells #[.int .i64 x.f0, .bool x.f1, .int .i64 x.f2, .string x.f3, .string x.f4.f0, .string x.f4.f1, .slice (some ad) x.f5.length kc] 67)).alloc (Obj.cells #[.int .i64 0, .bool false, .int .i64 0, .string ⟨#[]⟩, .string ⟨#[]⟩, .string ⟨#[]⟩, .slice none 0 0] 31)).cell? ⟨w.heap.size, 0, none⟩ = some (Value.slice A 0 c) := by go_simp
  have g1 : (((w.alloc (Obj.cells #[.slice A 0 c, .string p0, .string p1, .string p2, .string p3, .string p4, .string p5] 151)).alloc (Obj.cells #[.int .i64 x.f0, .bool x.f1, .int .i64 x.f2, .string x.f3, .string x.f4.f0, .string x.f4.f1, .slice (some ad) x.f5.length kc] 67)).alloc (Obj.cells #[.int .i64 0, .bool false, .int .i64 0, .string ⟨#[]⟩, .string ⟨#[]⟩, .string ⟨#[]⟩, .slice none 0 0] 31)).cell? ⟨w.heap.size, 1, none⟩ = some (Value.string p0) := by go_simp
  have g2 : (((w.alloc (Obj.cells #[.slice A 0 c, .string p0, .string p1, .string p2, .string p3, .string p4, .string p5] 151)).alloc (Obj.cells #[.int .i64 x.f0, .bool x.f1, .int .i64 x.f2, .string x.f3, .string x.f4.f0, .string x.f4.f1, .slice (some ad) x.f5.length kc] 67)).alloc (Obj.cells #[.int .i64 0, .bool false, .int .i64 0, .string ⟨#[]⟩, .string ⟨#[]⟩, .string ⟨#[]⟩, .slice none 0 0] 31)).cell? ⟨w.heap.size, 2, none⟩ = some (Value.string p1) := by go_simp
  have g3 : (((w.alloc (Obj.cells #[.slice A 0 c, .string p0, .string p1, .string p2, .string p3, .string p4, .string p5] 151)).alloc (Obj.cells #[.int .i64 x.f0, .bool x.f1, .int .i64 x.f2, .string x.f3, .string x.f4.f0, .string x.f4.f1, .slice (some ad) x.f5.length kc] 67)).alloc (Obj.cells #[.int .i64 0, .bool false, .int .i64 0, .string ⟨#[]⟩, .string ⟨#[]⟩, .string ⟨#[]⟩, .slice none 0 0] 31)).cell? ⟨w.heap.size, 3, none⟩ = some (Value.string p2) := by go_simp
  have g4 : (((w.alloc (Obj.cells #[.slice A 0 c, .string p0, .string p1, .string p2, .string p3, .string p4, .string p5] 151)).alloc (Obj.cells #[.int .i64 x.f0, .bool x.f1, .int .i64 x.f2, .string x.f3, .string x.f4.f0, .string x.f4.f1, .slice (some ad) x.f5.length kc] 67)).alloc (Obj.cells #[.int .i64 0, .bool false, .int .i64 0, .string ⟨#[]⟩, .string ⟨#[]⟩, .string ⟨#[]⟩, .slice none 0 0] 31)).cell? ⟨w.heap.size, 4, none⟩ = some (Value.string p3) := by go_simp
  have g5 : (((w.alloc (Obj.cells #[.slice A 0 c, .string p0, .string p1, .string p2, .string p3, .string p4, .string p5] 151)).alloc (Obj.cells #[.int .i64 x.f0, .bool x.f1, .int .i64 x.f2, .string x.f3, .string x.f4.f0, .string x.f4.f1, .slice (some ad) x.f5.length kc] 67)).alloc (Obj.cells #[.int .i64 0, .bool false, .int .i64 0, .string ⟨#[]⟩, .string ⟨#[]⟩, .string ⟨#[]⟩, .slice none 0 0] 31)).cell? ⟨w.heap.size, 5, none⟩ = some (Value.string p4) := by go_simp
  have g6 : (((w.alloc (Obj.cells #[.slice A 0 c, .string p0, .string p1, .string p2, .string p3, .string p4, .string p5] 151)).alloc (Obj.cells #[.int .i64 x.f0, .bool x.f1, .int .i64 x.f2, .string x.f3, .string x.f4.f0, .string x.f4.f1, .slice (some ad) x.f5.length kc] 67)).alloc (Obj.cells #[.int .i64 0, .bool false, .int .i64 0, .string ⟨#[]⟩, .string ⟨#[]⟩, .string ⟨#[]⟩, .slice none 0 0] 31)).cell? ⟨w.heap.size, 6, none⟩ = some (Value.string p5) := by go_simp
  have e0 : (((w.alloc (Obj.cells #[.slice A 0 c, .string p0, .string p1, .string p2, .string p3, .string p4, .string p5] 151)).alloc (Obj.cells #[.int .i64 x.f0, .bool x.f1, .int .i64 x.f2, .string x.f3, .string x.f4.f0, .string x.f4.f1, .slice (some ad) x.f5.length kc] 67)).alloc (Obj.cells #[.int .i64 0, .bool false, .int .i64 0, .string ⟨#[]⟩, .string ⟨#[]⟩, .string ⟨#[]⟩, .slice none 0 0] 31)).cell? ⟨w.heap.size + 1, 0, none⟩ = some (Value.int .i64 x.f0) := by go_simp
  have e1 : (((w.alloc (Obj.cells #[.slice A 0 c, .string p0, .string p1, .string p2, .string p3, .string p4, .string p5] 151)).alloc (Obj.cells #[.int .i64 x.f0, .bool x.f1, .int .i64 x.f2, .string x.f3, .string x.f4.f0, .string x.f4.f1, .slice (some ad) x.f5.length kc] 67)).alloc (Obj.cells #[.int .i64 0, .bool false, .int .i64 0, .string ⟨#[]⟩, .string ⟨#[]⟩, .string ⟨#[]⟩, .slice none 0 0] 31)).cell? ⟨w.heap.size + 1, 1, none⟩ = some (Value.bool x.f1) := by go_simp
  have e2 : (((w.alloc (Obj.cells #[.slice A 0 c, .string p0, .string p1, .string p2, .string p3, .string p4, .string p5] 151)).alloc (Obj.cells #[.int .i64 x.f0, .bool x.f1, .int .i64 x.f2, .string x.f3, .string x.f4.f0, .string x.f4.f1, .slice (some ad) x.f5.length kc] 67)).alloc (Obj.cells #[.int .i64 0, .bool false, .int .i64 0, .string ⟨#[]⟩, .string ⟨#[]⟩, .string ⟨#[]⟩, .slice none 0 0] 31)).cell? ⟨w.heap.size + 1, 2, none⟩ = some (Value.int .i64 x.f2) := by go_simp
  have e3 : (((w.alloc (Obj.cells #[.slice A 0 c, .string p0, .string p1, .string p2, .string p3, .string p4, .string p5] 151)).alloc (Obj.cells #[.int .i64 x.f0, .bool x.f1, .int .i64 x.f2, .string x.f3, .string x.f4.f0, .string x.f4.f1, .slice (some ad) x.f5.length kc] 67)).alloc (Obj.cells #[.int .i64 0, .bool false, .int .i64 0, .string ⟨#[]⟩, .string ⟨#[]⟩, .string ⟨#[]⟩, .slice none 0 0] 31)).cell? ⟨w.heap.size + 1, 3, none⟩ = some (Value.string x.f3) := by go_simp
  have e4 : (((w.alloc (Obj.cells #[.slice A 0 c, .string p0, .string p1, .string p2, .string p3, .string p4, .string p5] 151)).alloc (Obj.cells #[.int .i64 x.f0, .bool x.f1, .int .i64 x.f2, .string x.f3, .string x.f4.f0, .string x.f4.f1, .slice (some ad) x.f5.length kc] 67)).alloc (Obj.cells #[.int .i64 0, .bool false, .int .i64 0, .string ⟨#[]⟩, .string ⟨#[]⟩, .string ⟨#[]⟩, .slice none 0 0] 31)).cell? ⟨w.heap.size + 1, 4, none⟩ = some (Value.string x.f4.f0) := by go_simp
  have e5 : (((w.alloc (Obj.cells #[.slice A 0 c, .string p0, .string p1, .string p2, .string p3, .string p4, .string p5] 151)).alloc (Obj.cells #[.int .i64 x.f0, .bool x.f1, .int .i64 x.f2, .string x.f3, .string x.f4.f0, .string x.f4.f1, .slice (some ad) x.f5.length kc] 67)).alloc (Obj.cells #[.int .i64 0, .bool false, .int .i64 0, .string ⟨#[]⟩, .string ⟨#[]⟩, .string ⟨#[]⟩, .slice none 0 0] 31)).cell? ⟨w.heap.size + 1, 5, none⟩ = some (Value.string x.f4.f1) := by go_simp
  have e6 : (((w.alloc (Obj.cells #[.slice A 0 c, .string p0, .string p1, .string p2, .string p3, .string p4, .string p5] 151)).alloc (Obj.cells #[.int .i64 x.f0, .bool x.f1, .int .i64 x.f2, .string x.f3, .string x.f4.f0, .string x.f4.f1, .slice (some ad) x.f5.length kc] 67)).alloc (Obj.cells #[.int .i64 0, .bool false, .int .i64 0, .string ⟨#[]⟩, .string ⟨#[]⟩, .string ⟨#[]⟩, .slice none 0 0] 31)).cell? ⟨w.heap.size + 1, 6, none⟩ = some (Value.slice (some ad) x.f5.length kc) := by go_simp
  have xl : Below w.heap.size w (((w.alloc (Obj.cells #[.slice A 0 c, .string p0, .string p1, .string p2, .string p3, .string p4, .string p5] 151)).alloc (Obj.cells #[.int .i64 x.f0, .bool x.f1, .int .i64 x.f2, .string x.f3, .string x.f4.f0, .string x.f4.f1, .slice (some ad) x.f5.length kc] 67)).alloc (Obj.cells #[.int .i64 0, .bool false, .int .i64 0, .string ⟨#[]⟩, .string ⟨#[]⟩, .string ⟨#[]⟩, .slice none 0 0] 31)) := by repeat (first | exact Below.refl _ _ | apply below_alloc)
  replace z0 := (xl.cell (World.block_lt_of_cell? _ _ z0)).trans z0
  replace z1 := (xl.cell (World.block_lt_of_cell? _ _ z1)).trans z1
  replace z2 := (xl.cell (World.block_lt_of_cell? _ _ z2)).trans z2
  replace z3 := (xl.cell (World.block_lt_of_cell? _ _ z3)).trans z3
  replace z4 := (xl.cell (World.block_lt_of_cell? _ _ z4)).trans z4
  replace z5 := (xl.cell (World.block_lt_of_cell? _ _ z5)).trans z5
  replace z6 := (xl.cell (World.block_lt_of_cell? _ _ z6)).trans z6
  have xb : Box (((w.alloc (Obj.cells #[.slice A 0 c, .string p0, .string p1, .string p2, .string p3, .string p4, .string p5] 151)).alloc (Obj.cells #[.int .i64 x.f0, .bool x.f1, .int .i64 x.f2, .string x.f3, .string x.f4.f0, .string x.f4.f1, .slice (some ad) x.f5.length kc] 67)).alloc (Obj.cells #[.int .i64 0, .bool false, .int .i64 0, .string ⟨#[]⟩, .string ⟨#[]⟩, .string ⟨#[]⟩, .slice none 0 0] 31)) (w.heap.size + 1 + 1) := (by repeat (first | exact blk_at _ _ _ (by simp; done) | (refine (Below.heap_alloc _ _ _ (by first | (simp; done) | (simp; omega))).trans ?_)))
  generalize (((w.alloc (Obj.cells #[.slice A 0 c, .string p0, .string p1, .string p2, .string p3, .string p4, .string p5] 151)).alloc (Obj.cells #[.int .i64 x.f0, .bool x.f1, .int .i64 x.f2, .string x.f3, .string x.f4.f0, .string x.f4.f1, .slice (some ad) x.f5.length kc] 67)).alloc (Obj.cells #[.int .i64 0, .bool false, .int .i64 0, .string ⟨#[]⟩, .string ⟨#[]⟩, .string ⟨#[]⟩, .slice none 0 0] 31)) = V at g0 g1 g2 g3 g4 g5 g6 e0 e1 e2 e3 e4 e5 e6 z0 z1 z2 z3 z4 z5 z6 xb xl ⊢
  replace g0 : V.drew.cell? ⟨w.heap.size, 0, none⟩ = some (Value.slice A 0 c) := g0
  replace g1 : V.drew.cell? ⟨w.heap.size, 1, none⟩ = some (Value.string p0) := g1
  replace g2 : V.drew.cell? ⟨w.heap.size, 2, none⟩ = some (Value.string p1) := g2
  replace g3 : V.drew.cell? ⟨w.heap.size, 3, none⟩ = some (Value.string p2) := g3
  replace g4 : V.drew.cell? ⟨w.heap.size, 4, none⟩ = some (Value.string p3) := g4
  replace g5 : V.drew.cell? ⟨w.heap.size, 5, none⟩ = some (Value.string p4) := g5
  replace g6 : V.drew.cell? ⟨w.heap.size, 6, none⟩ = some (Value.string p5) := g6
  replace e0 : V.drew.cell? ⟨w.heap.size + 1, 0, none⟩ = some (Value.int .i64 x.f0) := e0
  replace e1 : V.drew.cell? ⟨w.heap.size + 1, 1, none⟩ = some (Value.bool x.f1) := e1
  replace e2 : V.drew.cell? ⟨w.heap.size + 1, 2, none⟩ = some (Value.int .i64 x.f2) := e2
  replace e3 : V.drew.cell? ⟨w.heap.size + 1, 3, none⟩ = some (Value.string x.f3) := e3
  replace e4 : V.drew.cell? ⟨w.heap.size + 1, 4, none⟩ = some (Value.string x.f4.f0) := e4
  replace e5 : V.drew.cell? ⟨w.heap.size + 1, 5, none⟩ = some (Value.string x.f4.f1) := e5
  replace e6 : V.drew.cell? ⟨w.heap.size + 1, 6, none⟩ = some (Value.slice (some ad) x.f5.length kc) := e6
  replace z0 : V.drew.cell? ad = some (Value.int .i64 k0.f0) := z0
  replace z1 : V.drew.cell? ⟨ad.block, ad.off + 1, none⟩ = some (Value.bool k0.f1) := z1
  replace z2 : V.drew.cell? ⟨ad.block, ad.off + 2, none⟩ = some (Value.int .i64 k0.f2) := z2
  replace z3 : V.drew.cell? ⟨ad.block, ad.off + 3, none⟩ = some (Value.string k0.f3) := z3
  replace z4 : V.drew.cell? ⟨ad.block, ad.off + 4, none⟩ = some (Value.string k0.f4.f0) := z4
  replace z5 : V.drew.cell? ⟨ad.block, ad.off + 5, none⟩ = some (Value.string k0.f4.f1) := z5
  replace z6 : V.drew.cell? ⟨ad.block, ad.off + 6, none⟩ = some (Value.slice Ak0 k0.f5.length ck0) := z6
  replace xb : Box V.drew (w.heap.size + 1 + 1) := xb
  replace xl : Below w.heap.size w V.drew := below_drew1 xl
  go_region_held3 (fun W => W.cell? ⟨w.heap.size, 0, none⟩ = some (Value.slice A 0 c) ∧ W.cell? ⟨w.heap.size, 1, none⟩ = some (Value.string p0) ∧ W.cell? ⟨w.heap.size, 2, none⟩ = some (Value.string p1) ∧ W.cell? ⟨w.heap.size, 3, none⟩ = some (Value.string p2) ∧ W.cell? ⟨w.heap.size, 4, none⟩ = some (Value.string p3) ∧ W.cell? ⟨w.heap.size, 5, none⟩ = some (Value.string p4) ∧ W.cell? ⟨w.heap.size, 6, none⟩ = some (Value.string p5) ∧ W.cell? ⟨w.heap.size + 1, 0, none⟩ = some (Value.int .i64 x.f0) ∧ W.cell? ⟨w.heap.size + 1, 1, none⟩ = some (Value.bool x.f1) ∧ W.cell? ⟨w.heap.size + 1, 2, none⟩ = some (Value.int .i64 x.f2) ∧ W.cell? ⟨w.heap.size + 1, 3, none⟩ = some (Value.string x.f3) ∧ W.cell? ⟨w.heap.size + 1, 4, none⟩ = some (Value.string x.f4.f0) ∧ W.cell? ⟨w.heap.size + 1, 5, none⟩ = some (Value.string x.f4.f1) ∧ W.cell? ⟨w.heap.size + 1, 6, none⟩ = some (Value.slice (some ad) x.f5.length kc) ∧ W.cell? ad = some (Value.int .i64 k0.f0) ∧ W.cell? ⟨ad.block, ad.off + 1, none⟩ = some (Value.bool k0.f1) ∧ W.cell? ⟨ad.block, ad.off + 2, none⟩ = some (Value.int .i64 k0.f2) ∧ W.cell? ⟨ad.block, ad.off + 3, none⟩ = some (Value.string k0.f3) ∧ W.cell? ⟨ad.block, ad.off + 4, none⟩ = some (Value.string k0.f4.f0) ∧ W.cell? ⟨ad.block, ad.off + 5, none⟩ = some (Value.string k0.f4.f1) ∧ W.cell? ⟨ad.block, ad.off + 6, none⟩ = some (Value.slice Ak0 k0.f5.length ck0) ∧ Box W (w.heap.size + 1 + 1) ∧ Below w.heap.size w W)
    ((first | ((try go_split_ands); refine ⟨?_, ?_, ?_, ?_, ?_, ?_, ?_, ?_, ?_, ?_, ?_, ?_, ?_, ?_, ?_, ?_, ?_, ?_, ?_, ?_, ?_, ?_, ?_⟩ <;> first | (with_reducible assumption) | (with_reducible exact cell_after7 (by with_reducible assumption) (by omega)) | (with_reducible exact below_after7 (by with_reducible assumption) (by omega)) | (with_reducible exact Box.after7 (by with_reducible assumption) (by omega)) | (with_reducible exact (hb.cell (World.block_lt_of_cell? _ _ (by with_reducible assumption))).trans (by with_reducible assumption)) | (with_reducible exact below_step (by with_reducible assumption) hb) | (with_reducible exact Box.mono (by with_reducible assumption) hb))))
    ((go_at_call 158; refine (HA.out _ _ _ _ _ HLk0.out (Kd.C_below HCk0.out xl)).mono ?_; rintro e w' ⟨rfl, hb⟩))
  go_split_ands
  have g0 : w'.cell? ⟨w.heap.size, 0, none⟩ = some (Value.slice A 0 c) := by with_reducible assumption
  have g1 : w'.cell? ⟨w.heap.size, 1, none⟩ = some (Value.string p0) := by with_reducible assumption
  have g2 : w'.cell? ⟨w.heap.size, 2, none⟩ = some (Value.string p1) := by with_reducible assumption
  have g3 : w'.cell? ⟨w.heap.size, 3, none⟩ = some (Value.string p2) := by with_reducible assumption
  have g4 : w'.cell? ⟨w.heap.size, 4, none⟩ = some (Value.string p3) := by with_reducible assumption
  have g5 : w'.cell? ⟨w.heap.size, 5, none⟩ = some (Value.string p4) := by with_reducible assumption
  have g6 : w'.cell? ⟨w.heap.size, 6, none⟩ = some (Value.string p5) := by with_reducible assumption
  have e0 : w'.cell? ⟨w.heap.size + 1, 0, none⟩ = some (Value.int .i64 x.f0) := by with_reducible assumption
  have e1 : w'.cell? ⟨w.heap.size + 1, 1, none⟩ = some (Value.bool x.f1) := by with_reducible assumption
  have e2 : w'.cell? ⟨w.heap.size + 1, 2, none⟩ = some (Value.int .i64 x.f2) := by with_reducible assumption
  have e3 : w'.cell? ⟨w.heap.size + 1, 3, none⟩ = some (Value.string x.f3) := by with_reducible assumption
  have e4 : w'.cell? ⟨w.heap.size + 1, 4, none⟩ = some (Value.string x.f4.f0) := by with_reducible assumption
  have e5 : w'.cell? ⟨w.heap.size + 1, 5, none⟩ = some (Value.string x.f4.f1) := by with_reducible assumption
  have e6 : w'.cell? ⟨w.heap.size + 1, 6, none⟩ = some (Value.slice (some ad) x.f5.length kc) := by with_reducible assumption
  have HB1 : Aside0 (Below w.heap.size w w') := ⟨by with_reducible assumption⟩
  have HBX1 : Aside0 (Box w' (w.heap.size + 1 + 1)) := ⟨by with_reducible assumption⟩
  have hsz1 : w.heap.size + 1 + 1 < w'.heap.size := lt_of_heap HBX1.out
  go_wp2_with (go_at_call 159; refine (hk _).mono ?_; rintro e w2 ⟨rfl, hb⟩; have HB2 : Aside0 (Below w.heap.size w w2) := ⟨below_step HB1.out hb⟩; have HBX2 := Aside0.mk (Box.mono HBX1.out hb); have q0 := HBX2.out.c0; have q1 := HBX2.out.c1; have q2 := HBX2.out.c2; have q3 := HBX2.out.c3; have q4 := HBX2.out.c4; have q5 := HBX2.out.c5; have q6 := HBX2.out.c6; have q7 := HBX2.out.fr; clear hb)
  (try simp only [Exit.inBlock, Exit.then])
  have hd := HBX2.out.done (.int .i64 1) (.bool false) (.int .i64 0) (.string ⟨#[]⟩) (.string ⟨#[]⟩) (.string ⟨#[]⟩) (.slice none 0 0)
  have hbl := HB2.out.trans (below_cells (B := w.heap.size) (w.heap.size + 1 + 1) (by omega) [.int .i64 1, .bool false, .int .i64 0, .string ⟨#[]⟩, .string ⟨#[]⟩, .string ⟨#[]⟩, .slice none 0 0] 0 w2)
  simp only [World.setCells] at hd hbl
  refine bodyPost_ret (results_row_tmp rfl _ _ (w.heap.size + 1 + 1) 31 _ (0, 0) _ rfl hd Try.underlying31 rfl (by kernel_rfl)) rfl ?_
  exact ⟨_, rfl, Kd.V_nil _ _ _ _ _, hbl⟩
set_option maxRecDepth 100000 in
set_option maxHeartbeats 16000000 in
theorem choice_or (p0 p1 p2 p3 p4 p5 : ByteArray) (x k0 : S67) (hkk0 : x.f5[0]? = some k0) (hop : x.f0 = 24) (h : AskOk p0 p1 p2 p3 p4 p5 k0 true 0) (A : Option Addr) (c : Nat) (B : Option Addr) (kc : Nat) (w : World) (hl : x.f5.length ≤ kc) (hC : k67.C w B x.f5.length x.f5) :
    Calls Try.prog 137 #[.agg #[.slice A 0 c, .string p0, .string p1, .string p2, .string p3, .string p4, .string p5], .agg #[.int .i64 x.f0, .bool x.f1, .int .i64 x.f2, .string x.f3, .string x.f4.f0, .string x.f4.f1, .slice B x.f5.length kc]] w (Gives w (trV true) 0) := by
  have HA := Aside0.mk h
  have hk := back_tr true
  clear h
  have hop1 : (x.f0 == 24) = true := beq_iff_eq.mpr hop
  have hop2 : (x.f0 == 25) = false := beq_eq_false_iff_ne.mpr (by omega)
  clear hop
  obtain ⟨ad, Ak0, ck0, rfl, z0, z1, z2, z3, z4, z5, z6, hlk0, hck0⟩ := exp_at hC 0 k0 hkk0
  have h0a : ((0 : Int) < (x.f5.length : Int)) = True := eq_true (by have := (List.getElem?_eq_some_iff.1 hkk0).1; omega)
  have h0n : 0 < x.f5.length := (List.getElem?_eq_some_iff.1 hkk0).1
  simp only [Nat.zero_mul, Addr.add_zero_] at z0 z1 z2 z3 z4 z5 z6
  have HLk0 := Aside0.mk hlk0
  have HCk0 := Aside0.mk hck0
  have HCC := Aside0.mk hC
  clear hlk0 hck0 hC
  go_enter Try.func137, Try.ntmps137
  go_wp2_with fail
  have g0 : (((w.alloc (Obj.cells #[.slice A 0 c, .string p0, .string p1, .string p2, .string p3, .string p4, .string p5] 151)).alloc (Obj.cells #[.int .i64 x.f0, .bool x.f1, .int .i64 x.f2, .string x.f3, .string x.f4.f0, .string x.f4.f1, .slice (some ad) x.f5.length kc] 67)).alloc (Obj.cells #[.int .i64 0, .bool false, .int .i64 0, .string ⟨#[]⟩, .string ⟨#[]⟩, .string ⟨#[]⟩, .slice none 0 0] 31)).cell? ⟨w.heap.size, 0, none⟩ = some (Value.slice A 0 c) := by go_simp
  have g1 : (((w.alloc (Obj.cells #[.slice A 0 c, .string p0, .string p1, .string p2, .string p3, .string p4, .string p5] 151)).alloc (Obj.cells #[.int .i64 x.f0, .bool x.f1, .int .i64 x.f2, .string x.f3, .string x.f4.f0, .string x.f4.f1, .slice (some ad) x.f5.length kc] 67)).alloc (Obj.cells #[.int .i64 0, .bool false, .int .i64 0, .string ⟨#[]⟩, .string ⟨#[]⟩, .string ⟨#[]⟩, .slice none 0 0] 31)).cell? ⟨w.heap.size, 1, none⟩ = some (Value.string p0) := by go_simp
  have g2 : (((w.alloc (Obj.cells #[.slice A 0 c, .string p0, .string p1, .string p2, .string p3, .string p4, .string p5] 151)).alloc (Obj.cells #[.int .i64 x.f0, .bool x.f1, .int .i64 x.f2, .string x.f3, .string x.f4.f0, .string x.f4.f1, .slice (some ad) x.f5.length kc] 67)).alloc (Obj.cells #[.int .i64 0, .bool false, .int .i64 0, .string ⟨#[]⟩, .string ⟨#[]⟩, .string ⟨#[]⟩, .slice none 0 0] 31)).cell? ⟨w.heap.size, 2, none⟩ = some (Value.string p1) := by go_simp
  have g3 : (((w.alloc (Obj.cells #[.slice A 0 c, .string p0, .string p1, .string p2, .string p3, .string p4, .string p5] 151)).alloc (Obj.cells #[.int .i64 x.f0, .bool x.f1, .int .i64 x.f2, .string x.f3, .string x.f4.f0, .string x.f4.f1, .slice (some ad) x.f5.length kc] 67)).alloc (Obj.cells #[.int .i64 0, .bool false, .int .i64 0, .string ⟨#[]⟩, .string ⟨#[]⟩, .string ⟨#[]⟩, .slice none 0 0] 31)).cell? ⟨w.heap.size, 3, none⟩ = some (Value.string p2) := by go_simp
  have g4 : (((w.alloc (Obj.cells #[.slice A 0 c, .string p0, .string p1, .string p2, .string p3, .string p4, .string p5] 151)).alloc (Obj.cells #[.int .i64 x.f0, .bool x.f1, .int .i64 x.f2, .string x.f3, .string x.f4.f0, .string x.f4.f1, .slice (some ad) x.f5.length kc] 67)).alloc (Obj.cells #[.int .i64 0, .bool false, .int .i64 0, .string ⟨#[]⟩, .string ⟨#[]⟩, .string ⟨#[]⟩, .slice none 0 0] 31)).cell? ⟨w.heap.size, 4, none⟩ = some (Value.string p3) := by go_simp
  have g5 : (((w.alloc (Obj.cells #[.slice A 0 c, .string p0, .string p1, .string p2, .string p3, .string p4, .string p5] 151)).alloc (Obj.cells #[.int .i64 x.f0, .bool x.f1, .int .i64 x.f2, .string x.f3, .string x.f4.f0, .string x.f4.f1, .slice (some ad) x.f5.length kc] 67)).alloc (Obj.cells #[.int .i64 0, .bool false, .int .i64 0, .string ⟨#[]⟩, .string ⟨#[]⟩, .string ⟨#[]⟩, .slice none 0 0] 31)).cell? ⟨w.heap.size, 5, none⟩ = some (Value.string p4) := by go_simp
  have g6 : (((w.alloc (Obj.cells #[.slice A 0 c, .string p0, .string p1, .string p2, .string p3, .string p4, .string p5] 151)).alloc (Obj.cells #[.int .i64 x.f0, .bool x.f1, .int .i64 x.f2, .string x.f3, .string x.f4.f0, .string x.f4.f1, .slice (some ad) x.f5.length kc] 67)).alloc (Obj.cells #[.int .i64 0, .bool false, .int .i64 0, .string ⟨#[]⟩, .string ⟨#[]⟩, .string ⟨#[]⟩, .slice none 0 0] 31)).cell? ⟨w.heap.size, 6, none⟩ = some (Value.string p5) := by go_simp
  have e0 : (((w.alloc (Obj.cells #[.slice A 0 c, .string p0, .string p1, .string p2, .string p3, .string p4, .string p5] 151)).alloc (Obj.cells #[.int .i64 x.f0, .bool x.f1, .int .i64 x.f2, .string x.f3, .string x.f4.f0, .string x.f4.f1, .slice (some ad) x.f5.length kc] 67)).alloc (Obj.cells #[.int .i64 0, .bool false, .int .i64 0, .string ⟨#[]⟩, .string ⟨#[]⟩, .string ⟨#[]⟩, .slice none 0 0] 31)).cell? ⟨w.heap.size + 1, 0, none⟩ = some (Value.int .i64 x.f0) := by go_simp
  have e1 : (((w.alloc (Obj.cells #[.slice A 0 c, .string p0, .string p1, .string p2, .string p3, .string p4, .string p5] 151)).alloc (Obj.cells #[.int .i64 x.f0, .bool x.f1, .int .i64 x.f2, .string x.f3, .string x.f4.f0, .string x.f4.f1, .slice (some ad) x.f5.length kc] 67)).alloc (Obj.cells #[.int .i64 0, .bool false, .int .i64 0, .string ⟨#[]⟩, .string ⟨#[]⟩, .string ⟨#[]⟩, .slice none 0 0] 31)).cell? ⟨w.heap.size + 1, 1, none⟩ = some (Value.bool x.f1) := by go_simp
  have e2 : (((w.alloc (Obj.cells #[.slice A 0 c, .string p0, .string p1, .string p2, .string p3, .string p4, .string p5] 151)).alloc (Obj.cells #[.int .i64 x.f0, .bool x.f1, .int .i64 x.f2, .string x.f3, .string x.f4.f0, .string x.f4.f1, .slice (some ad) x.f5.length kc] 67)).alloc (Obj.cells #[.int .i64 0, .bool false, .int .i64 0, .string ⟨#[]⟩, .string ⟨#[]⟩, .string ⟨#[]⟩, .slice none 0 0] 31)).cell? ⟨w.heap.size + 1, 2, none⟩ = some (Value.int .i64 x.f2) := by go_simp
  have e3 : (((w.alloc (Obj.cells #[.slice A 0 c, .string p0, .string p1, .string p2, .string p3, .string p4, .string p5] 151)).alloc (Obj.cells #[.int .i64 x.f0, .bool x.f1, .int .i64 x.f2, .string x.f3, .string x.f4.f0, .string x.f4.f1, .slice (some ad) x.f5.length kc] 67)).alloc (Obj.cells #[.int .i64 0, .bool false, .int .i64 0, .string ⟨#[]⟩, .string ⟨#[]⟩, .string ⟨#[]⟩, .slice none 0 0] 31)).cell? ⟨w.heap.size + 1, 3, none⟩ = some (Value.string x.f3) := by go_simp
  have e4 : (((w.alloc (Obj.cells #[.slice A 0 c, .string p0, .string p1, .string p2, .string p3, .string p4, .string p5] 151)).alloc (Obj.cells #[.int .i64 x.f0, .bool x.f1, .int .i64 x.f2, .string x.f3, .string x.f4.f0, .string x.f4.f1, .slice (some ad) x.f5.length kc] 67)).alloc (Obj.cells #[.int .i64 0, .bool false, .int .i64 0, .string ⟨#[]⟩, .string ⟨#[]⟩, .string ⟨#[]⟩, .slice none 0 0] 31)).cell? ⟨w.heap.size + 1, 4, none⟩ = some (Value.string x.f4.f0) := by go_simp
  have e5 : (((w.alloc (Obj.cells #[.slice A 0 c, .string p0, .string p1, .string p2, .string p3, .string p4, .string p5] 151)).alloc (Obj.cells #[.int .i64 x.f0, .bool x.f1, .int .i64 x.f2, .string x.f3, .string x.f4.f0, .string x.f4.f1, .slice (some ad) x.f5.length kc] 67)).alloc (Obj.cells #[.int .i64 0, .bool false, .int .i64 0, .string ⟨#[]⟩, .string ⟨#[]⟩, .string ⟨#[]⟩, .slice none 0 0] 31)).cell? ⟨w.heap.size + 1, 5, none⟩ = some (Value.string x.f4.f1) := by go_simp
  have e6 : (((w.alloc (Obj.cells #[.slice A 0 c, .string p0, .string p1, .string p2, .string p3, .string p4, .string p5] 151)).alloc (Obj.cells #[.int .i64 x.f0, .bool x.f1, .int .i64 x.f2, .string x.f3, .string x.f4.f0, .string x.f4.f1, .slice (some ad) x.f5.length kc] 67)).alloc (Obj.cells #[.int .i64 0, .bool false, .int .i64 0, .string ⟨#[]⟩, .string ⟨#[]⟩, .string ⟨#[]⟩, .slice none 0 0] 31)).cell? ⟨w.heap.size + 1, 6, none⟩ = some (Value.slice (some ad) x.f5.length kc) := by go_simp
  have xl : Below w.heap.size w (((w.alloc (Obj.cells #[.slice A 0 c, .string p0, .string p1, .string p2, .string p3, .string p4, .string p5] 151)).alloc (Obj.cells #[.int .i64 x.f0, .bool x.f1, .int .i64 x.f2, .string x.f3, .string x.f4.f0, .string x.f4.f1, .slice (some ad) x.f5.length kc] 67)).alloc (Obj.cells #[.int .i64 0, .bool false, .int .i64 0, .string ⟨#[]⟩, .string ⟨#[]⟩, .string ⟨#[]⟩, .slice none 0 0] 31)) := by repeat (first | exact Below.refl _ _ | apply below_alloc)
  replace z0 := (xl.cell (World.block_lt_of_cell? _ _ z0)).trans z0
  replace z1 := (xl.cell (World.block_lt_of_cell? _ _ z1)).trans z1
  replace z2 := (xl.cell (World.block_lt_of_cell? _ _ z2)).trans z2
  replace z3 := (xl.cell (World.block_lt_of_cell? _ _ z3)).trans z3
  replace z4 := (xl.cell (World.block_lt_of_cell? _ _ z4)).trans z4
  replace z5 := (xl.cell (World.block_lt_of_cell? _ _ z5)).trans z5
  replace z6 := (xl.cell (World.block_lt_of_cell? _ _ z6)).trans z6
  have xb : Box (((w.alloc (Obj.cells #[.slice A 0 c, .string p0, .string p1, .string p2, .string p3, .string p4, .string p5] 151)).alloc (Obj.cells #[.int .i64 x.f0, .bool x.f1, .int .i64 x.f2, .string x.f3, .string x.f4.f0, .string x.f4.f1, .slice (some ad) x.f5.length kc] 67)).alloc (Obj.cells #[.int .i64 0, .bool false, .int .i64 0, .string ⟨#[]⟩, .string ⟨#[]⟩, .string ⟨#[]⟩, .slice none 0 0] 31)) (w.heap.size + 1 + 1) := (by repeat (first | exact blk_at _ _ _ (by simp; done) | (refine (Below.heap_alloc _ _ _ (by first | (simp; done) | (simp; omega))).trans ?_)))
  generalize (((w.alloc (Obj.cells #[.slice A 0 c, .string p0, .string p1, .string p2, .string p3, .string p4, .string p5] 151)).alloc (Obj.cells #[.int .i64 x.f0, .bool x.f1, .int .i64 x.f2, .string x.f3, .string x.f4.f0, .string x.f4.f1, .slice (some ad) x.f5.length kc] 67)).alloc (Obj.cells #[.int .i64 0, .bool false, .int .i64 0, .string ⟨#[]⟩, .string ⟨#[]⟩, .string ⟨#[]⟩, .slice none 0 0] 31)) = V at g0 g1 g2 g3 g4 g5 g6 e0 e1 e2 e3 e4 e5 e6 z0 z1 z2 z3 z4 z5 z6 xb xl ⊢
  replace g0 : V.drew.cell? ⟨w.heap.size, 0, none⟩ = some (Value.slice A 0 c) := g0
  replace g1 : V.drew.cell? ⟨w.heap.size, 1, none⟩ = some (Value.string p0) := g1
  replace g2 : V.drew.cell? ⟨w.heap.size, 2, none⟩ = some (Value.string p1) := g2
  replace g3 : V.drew.cell? ⟨w.heap.size, 3, none⟩ = some (Value.string p2) := g3
  replace g4 : V.drew.cell? ⟨w.heap.size, 4, none⟩ = some (Value.string p3) := g4
  replace g5 : V.drew.cell? ⟨w.heap.size, 5, none⟩ = some (Value.string p4) := g5
  replace g6 : V.drew.cell? ⟨w.heap.size, 6, none⟩ = some (Value.string p5) := g6
  replace e0 : V.drew.cell? ⟨w.heap.size + 1, 0, none⟩ = some (Value.int .i64 x.f0) := e0
  replace e1 : V.drew.cell? ⟨w.heap.size + 1, 1, none⟩ = some (Value.bool x.f1) := e1
  replace e2 : V.drew.cell? ⟨w.heap.size + 1, 2, none⟩ = some (Value.int .i64 x.f2) := e2
  replace e3 : V.drew.cell? ⟨w.heap.size + 1, 3, none⟩ = some (Value.string x.f3) := e3
  replace e4 : V.drew.cell? ⟨w.heap.size + 1, 4, none⟩ = some (Value.string x.f4.f0) := e4
  replace e5 : V.drew.cell? ⟨w.heap.size + 1, 5, none⟩ = some (Value.string x.f4.f1) := e5
  replace e6 : V.drew.cell? ⟨w.heap.size + 1, 6, none⟩ = some (Value.slice (some ad) x.f5.length kc) := e6
  replace z0 : V.drew.cell? ad = some (Value.int .i64 k0.f0) := z0
  replace z1 : V.drew.cell? ⟨ad.block, ad.off + 1, none⟩ = some (Value.bool k0.f1) := z1
  replace z2 : V.drew.cell? ⟨ad.block, ad.off + 2, none⟩ = some (Value.int .i64 k0.f2) := z2
  replace z3 : V.drew.cell? ⟨ad.block, ad.off + 3, none⟩ = some (Value.string k0.f3) := z3
  replace z4 : V.drew.cell? ⟨ad.block, ad.off + 4, none⟩ = some (Value.string k0.f4.f0) := z4
  replace z5 : V.drew.cell? ⟨ad.block, ad.off + 5, none⟩ = some (Value.string k0.f4.f1) := z5
  replace z6 : V.drew.cell? ⟨ad.block, ad.off + 6, none⟩ = some (Value.slice Ak0 k0.f5.length ck0) := z6
  replace xb : Box V.drew (w.heap.size + 1 + 1) := xb
  replace xl : Below w.heap.size w V.drew := below_drew1 xl
  go_region_held3 (fun W => W.cell? ⟨w.heap.size, 0, none⟩ = some (Value.slice A 0 c) ∧ W.cell? ⟨w.heap.size, 1, none⟩ = some (Value.string p0) ∧ W.cell? ⟨w.heap.size, 2, none⟩ = some (Value.string p1) ∧ W.cell? ⟨w.heap.size, 3, none⟩ = some (Value.string p2) ∧ W.cell? ⟨w.heap.size, 4, none⟩ = some (Value.string p3) ∧ W.cell? ⟨w.heap.size, 5, none⟩ = some (Value.string p4) ∧ W.cell? ⟨w.heap.size, 6, none⟩ = some (Value.string p5) ∧ W.cell? ⟨w.heap.size + 1, 0, none⟩ = some (Value.int .i64 x.f0) ∧ W.cell? ⟨w.heap.size + 1, 1, none⟩ = some (Value.bool x.f1) ∧ W.cell? ⟨w.heap.size + 1, 2, none⟩ = some (Value.int .i64 x.f2) ∧ W.cell? ⟨w.heap.size + 1, 3, none⟩ = some (Value.string x.f3) ∧ W.cell? ⟨w.heap.size + 1, 4, none⟩ = some (Value.string x.f4.f0) ∧ W.cell? ⟨w.heap.size + 1, 5, none⟩ = some (Value.string x.f4.f1) ∧ W.cell? ⟨w.heap.size + 1, 6, none⟩ = some (Value.slice (some ad) x.f5.length kc) ∧ W.cell? ad = some (Value.int .i64 k0.f0) ∧ W.cell? ⟨ad.block, ad.off + 1, none⟩ = some (Value.bool k0.f1) ∧ W.cell? ⟨ad.block, ad.off + 2, none⟩ = some (Value.int .i64 k0.f2) ∧ W.cell? ⟨ad.block, ad.off + 3, none⟩ = some (Value.string k0.f3) ∧ W.cell? ⟨ad.block, ad.off + 4, none⟩ = some (Value.string k0.f4.f0) ∧ W.cell? ⟨ad.block, ad.off + 5, none⟩ = some (Value.string k0.f4.f1) ∧ W.cell? ⟨ad.block, ad.off + 6, none⟩ = some (Value.slice Ak0 k0.f5.length ck0) ∧ Box W (w.heap.size + 1 + 1) ∧ Below w.heap.size w W)
    ((first | ((try go_split_ands); refine ⟨?_, ?_, ?_, ?_, ?_, ?_, ?_, ?_, ?_, ?_, ?_, ?_, ?_, ?_, ?_, ?_, ?_, ?_, ?_, ?_, ?_, ?_, ?_⟩ <;> first | (with_reducible assumption) | (with_reducible exact cell_after7 (by with_reducible assumption) (by omega)) | (with_reducible exact below_after7 (by with_reducible assumption) (by omega)) | (with_reducible exact Box.after7 (by with_reducible assumption) (by omega)) | (with_reducible exact (hb.cell (World.block_lt_of_cell? _ _ (by with_reducible assumption))).trans (by with_reducible assumption)) | (with_reducible exact below_step (by with_reducible assumption) hb) | (with_reducible exact Box.mono (by with_reducible assumption) hb))))
    ((go_at_call 158; refine (HA.out _ _ _ _ _ HLk0.out (Kd.C_below HCk0.out xl)).mono ?_; rintro e w' ⟨rfl, hb⟩))
  go_split_ands
  have g0 : w'.cell? ⟨w.heap.size, 0, none⟩ = some (Value.slice A 0 c) := by with_reducible assumption
  have g1 : w'.cell? ⟨w.heap.size, 1, none⟩ = some (Value.string p0) := by with_reducible assumption
  have g2 : w'.cell? ⟨w.heap.size, 2, none⟩ = some (Value.string p1) := by with_reducible assumption
  have g3 : w'.cell? ⟨w.heap.size, 3, none⟩ = some (Value.string p2) := by with_reducible assumption
  have g4 : w'.cell? ⟨w.heap.size, 4, none⟩ = some (Value.string p3) := by with_reducible assumption
  have g5 : w'.cell? ⟨w.heap.size, 5, none⟩ = some (Value.string p4) := by with_reducible assumption
  have g6 : w'.cell? ⟨w.heap.size, 6, none⟩ = some (Value.string p5) := by with_reducible assumption
  have e0 : w'.cell? ⟨w.heap.size + 1, 0, none⟩ = some (Value.int .i64 x.f0) := by with_reducible assumption
  have e1 : w'.cell? ⟨w.heap.size + 1, 1, none⟩ = some (Value.bool x.f1) := by with_reducible assumption
  have e2 : w'.cell? ⟨w.heap.size + 1, 2, none⟩ = some (Value.int .i64 x.f2) := by with_reducible assumption
  have e3 : w'.cell? ⟨w.heap.size + 1, 3, none⟩ = some (Value.string x.f3) := by with_reducible assumption
  have e4 : w'.cell? ⟨w.heap.size + 1, 4, none⟩ = some (Value.string x.f4.f0) := by with_reducible assumption
  have e5 : w'.cell? ⟨w.heap.size + 1, 5, none⟩ = some (Value.string x.f4.f1) := by with_reducible assumption
  have e6 : w'.cell? ⟨w.heap.size + 1, 6, none⟩ = some (Value.slice (some ad) x.f5.length kc) := by with_reducible assumption
  have HB1 : Aside0 (Below w.heap.size w w') := ⟨by with_reducible assumption⟩
  have HBX1 : Aside0 (Box w' (w.heap.size + 1 + 1)) := ⟨by with_reducible assumption⟩
  have hsz1 : w.heap.size + 1 + 1 < w'.heap.size := lt_of_heap HBX1.out
  go_wp2_with (go_at_call 159; refine (hk _).mono ?_; rintro e w2 ⟨rfl, hb⟩; have HB2 : Aside0 (Below w.heap.size w w2) := ⟨below_step HB1.out hb⟩; have HBX2 := Aside0.mk (Box.mono HBX1.out hb); have q0 := HBX2.out.c0; have q1 := HBX2.out.c1; have q2 := HBX2.out.c2; have q3 := HBX2.out.c3; have q4 := HBX2.out.c4; have q5 := HBX2.out.c5; have q6 := HBX2.out.c6; have q7 := HBX2.out.fr; clear hb)
  (try simp only [Exit.inBlock, Exit.then])
  have hd := HBX2.out.done (.int .i64 1) (.bool true) (.int .i64 0) (.string ⟨#[]⟩) (.string ⟨#[]⟩) (.string ⟨#[]⟩) (.slice none 0 0)
  have hbl := HB2.out.trans (below_cells (B := w.heap.size) (w.heap.size + 1 + 1) (by omega) [.int .i64 1, .bool true, .int .i64 0, .string ⟨#[]⟩, .string ⟨#[]⟩, .string ⟨#[]⟩, .slice none 0 0] 0 w2)
  simp only [World.setCells] at hd hbl
  refine bodyPost_ret (results_row_tmp rfl _ _ (w.heap.size + 1 + 1) 31 _ (0, 0) _ rfl hd Try.underlying31 rfl (by kernel_rfl)) rfl ?_
  exact ⟨_, rfl, Kd.V_nil _ _ _ _ _, hbl⟩
set_option maxRecDepth 100000 in
set_option maxHeartbeats 16000000 in
theorem told_tr (t : Bool) (w : World) : Calls Try.prog 160 #[.iface 226 (.bool t), .int .i64 0] w fun e w' => e = .returned (.tuple #[.agg #[.int .i64 1, .bool t, .int .i64 0, .string ⟨#[]⟩, .string ⟨#[]⟩, .string ⟨#[]⟩, .slice none 0 0], .int .i64 0]) ∧ Below w.heap.size w w' := by
  have hbk := back_tr t
  go_enter Try.func160, Try.ntmps160
  go_wp2_with (go_at_call 159; refine (hbk _).mono ?_; rintro e w1 ⟨rfl, hb⟩; have HB1 : Aside0 (Below w.heap.size w w1) := ⟨below_step (by repeat (first | exact Below.refl _ _ | apply below_alloc)) hb⟩; have HBX1 : Aside0 (Box w1 w.heap.size) := ⟨(hb.block _ (by first | (simp; done) | (simp; omega))).trans (by repeat (first | exact blk_at _ _ _ (by simp; done) | (refine (Below.heap_alloc _ _ _ (by first | (simp; done) | (simp; omega))).trans ?_)))⟩; have q0 := HBX1.out.c0; have q1 := HBX1.out.c1; have q2 := HBX1.out.c2; have q3 := HBX1.out.c3; have q4 := HBX1.out.c4; have q5 := HBX1.out.c5; have q6 := HBX1.out.c6; have q7 := HBX1.out.fr; clear hb)
  (try simp only [Exit.inBlock, Exit.then])
  have hd := HBX1.out.done (.int .i64 1) (.bool t) (.int .i64 0) (.string ⟨#[]⟩) (.string ⟨#[]⟩) (.string ⟨#[]⟩) (.slice none 0 0)
  have hbl := HB1.out.trans (below_cells (B := w.heap.size) (w.heap.size) (by omega) [.int .i64 1, .bool t, .int .i64 0, .string ⟨#[]⟩, .string ⟨#[]⟩, .string ⟨#[]⟩, .slice none 0 0] 0 w1)
  simp only [World.setCells] at hd hbl
  refine bodyPost_ret (results_row_tmp rfl _ _ (w.heap.size) 31 _ (0, 0) _ rfl hd Try.underlying31 rfl (by kernel_rfl)) rfl ?_
  exact ⟨rfl, hbl⟩
set_option maxRecDepth 100000 in
set_option maxHeartbeats 16000000 in
theorem choice_both_and (p0 p1 p2 p3 p4 p5 : ByteArray) (x k0 k1 : S67) (hkk0 : x.f5[0]? = some k0) (hkk1 : x.f5[1]? = some k1) (hop : x.f0 ≠ 24) (hop5 : x.f0 ≠ 25) (h : AskOk p0 p1 p2 p3 p4 p5 k0 true 0) (t2 : Bool) (h2 : AskOk p0 p1 p2 p3 p4 p5 k1 t2 0) (A : Option Addr) (c : Nat) (B : Option Addr) (kc : Nat) (w : World) (hl : x.f5.length ≤ kc) (hC : k67.C w B x.f5.length x.f5) :
    Calls Try.prog 137 #[.agg #[.slice A 0 c, .string p0, .string p1, .string p2, .string p3, .string p4, .string p5], .agg #[.int .i64 x.f0, .bool x.f1, .int .i64 x.f2, .string x.f3, .string x.f4.f0, .string x.f4.f1, .slice B x.f5.length kc]] w (Gives w (trV t2) 0) := by
  have HA := Aside0.mk h
  have HE := Aside0.mk h2
  have hk := told_tr t2
  clear h h2
  have hop1 : (x.f0 == 24) = false := beq_eq_false_iff_ne.mpr hop
  have hop2 : (x.f0 == 25) = false := beq_eq_false_iff_ne.mpr hop5
  clear hop hop5
  obtain ⟨ad, Ak0, ck0, rfl, z0, z1, z2, z3, z4, z5, z6, hlk0, hck0⟩ := exp_at hC 0 k0 hkk0
  have h0a : ((0 : Int) < (x.f5.length : Int)) = True := eq_true (by have := (List.getElem?_eq_some_iff.1 hkk0).1; omega)
  have h0n : 0 < x.f5.length := (List.getElem?_eq_some_iff.1 hkk0).1
  simp only [Nat.zero_mul, Addr.add_zero_] at z0 z1 z2 z3 z4 z5 z6
  have HLk0 := Aside0.mk hlk0
  have HCk0 := Aside0.mk hck0
  have HCC := Aside0.mk hC
  clear hlk0 hck0 hC
  go_enter Try.func137, Try.ntmps137
  go_wp2_with fail
  have g0 : (((w.alloc (Obj.cells #[.slice A 0 c, .string p0, .string p1, .string p2, .string p3, .string p4, .string p5] 151)).alloc (Obj.cells #[.int .i64 x.f0, .bool x.f1, .int .i64 x.f2, .string x.f3, .string x.f4.f0, .string x.f4.f1, .slice (some ad) x.f5.length kc] 67)).alloc (Obj.cells #[.int .i64 0, .bool false, .int .i64 0, .string ⟨#[]⟩, .string ⟨#[]⟩, .string ⟨#[]⟩, .slice none 0 0] 31)).cell? ⟨w.heap.size, 0, none⟩ = some (Value.slice A 0 c) := by go_simp
  have g1 : (((w.alloc (Obj.cells #[.slice A 0 c, .string p0, .string p1, .string p2, .string p3, .string p4, .string p5] 151)).alloc (Obj.cells #[.int .i64 x.f0, .bool x.f1, .int .i64 x.f2, .string x.f3, .string x.f4.f0, .string x.f4.f1, .slice (some ad) x.f5.length kc] 67)).alloc (Obj.cells #[.int .i64 0, .bool false, .int .i64 0, .string ⟨#[]⟩, .string ⟨#[]⟩, .string ⟨#[]⟩, .slice none 0 0] 31)).cell? ⟨w.heap.size, 1, none⟩ = some (Value.string p0) := by go_simp
  have g2 : (((w.alloc (Obj.cells #[.slice A 0 c, .string p0, .string p1, .string p2, .string p3, .string p4, .string p5] 151)).alloc (Obj.cells #[.int .i64 x.f0, .bool x.f1, .int .i64 x.f2, .string x.f3, .string x.f4.f0, .string x.f4.f1, .slice (some ad) x.f5.length kc] 67)).alloc (Obj.cells #[.int .i64 0, .bool false, .int .i64 0, .string ⟨#[]⟩, .string ⟨#[]⟩, .string ⟨#[]⟩, .slice none 0 0] 31)).cell? ⟨w.heap.size, 2, none⟩ = some (Value.string p1) := by go_simp
  have g3 : (((w.alloc (Obj.cells #[.slice A 0 c, .string p0, .string p1, .string p2, .string p3, .string p4, .string p5] 151)).alloc (Obj.cells #[.int .i64 x.f0, .bool x.f1, .int .i64 x.f2, .string x.f3, .string x.f4.f0, .string x.f4.f1, .slice (some ad) x.f5.length kc] 67)).alloc (Obj.cells #[.int .i64 0, .bool false, .int .i64 0, .string ⟨#[]⟩, .string ⟨#[]⟩, .string ⟨#[]⟩, .slice none 0 0] 31)).cell? ⟨w.heap.size, 3, none⟩ = some (Value.string p2) := by go_simp
  have g4 : (((w.alloc (Obj.cells #[.slice A 0 c, .string p0, .string p1, .string p2, .string p3, .string p4, .string p5] 151)).alloc (Obj.cells #[.int .i64 x.f0, .bool x.f1, .int .i64 x.f2, .string x.f3, .string x.f4.f0, .string x.f4.f1, .slice (some ad) x.f5.length kc] 67)).alloc (Obj.cells #[.int .i64 0, .bool false, .int .i64 0, .string ⟨#[]⟩, .string ⟨#[]⟩, .string ⟨#[]⟩, .slice none 0 0] 31)).cell? ⟨w.heap.size, 4, none⟩ = some (Value.string p3) := by go_simp
  have g5 : (((w.alloc (Obj.cells #[.slice A 0 c, .string p0, .string p1, .string p2, .string p3, .string p4, .string p5] 151)).alloc (Obj.cells #[.int .i64 x.f0, .bool x.f1, .int .i64 x.f2, .string x.f3, .string x.f4.f0, .string x.f4.f1, .slice (some ad) x.f5.length kc] 67)).alloc (Obj.cells #[.int .i64 0, .bool false, .int .i64 0, .string ⟨#[]⟩, .string ⟨#[]⟩, .string ⟨#[]⟩, .slice none 0 0] 31)).cell? ⟨w.heap.size, 5, none⟩ = some (Value.string p4) := by go_simp
  have g6 : (((w.alloc (Obj.cells #[.slice A 0 c, .string p0, .string p1, .string p2, .string p3, .string p4, .string p5] 151)).alloc (Obj.cells #[.int .i64 x.f0, .bool x.f1, .int .i64 x.f2, .string x.f3, .string x.f4.f0, .string x.f4.f1, .slice (some ad) x.f5.length kc] 67)).alloc (Obj.cells #[.int .i64 0, .bool false, .int .i64 0, .string ⟨#[]⟩, .string ⟨#[]⟩, .string ⟨#[]⟩, .slice none 0 0] 31)).cell? ⟨w.heap.size, 6, none⟩ = some (Value.string p5) := by go_simp
  have e0 : (((w.alloc (Obj.cells #[.slice A 0 c, .string p0, .string p1, .string p2, .string p3, .string p4, .string p5] 151)).alloc (Obj.cells #[.int .i64 x.f0, .bool x.f1, .int .i64 x.f2, .string x.f3, .string x.f4.f0, .string x.f4.f1, .slice (some ad) x.f5.length kc] 67)).alloc (Obj.cells #[.int .i64 0, .bool false, .int .i64 0, .string ⟨#[]⟩, .string ⟨#[]⟩, .string ⟨#[]⟩, .slice none 0 0] 31)).cell? ⟨w.heap.size + 1, 0, none⟩ = some (Value.int .i64 x.f0) := by go_simp
  have e1 : (((w.alloc (Obj.cells #[.slice A 0 c, .string p0, .string p1, .string p2, .string p3, .string p4, .string p5] 151)).alloc (Obj.cells #[.int .i64 x.f0, .bool x.f1, .int .i64 x.f2, .string x.f3, .string x.f4.f0, .string x.f4.f1, .slice (some ad) x.f5.length kc] 67)).alloc (Obj.cells #[.int .i64 0, .bool false, .int .i64 0, .string ⟨#[]⟩, .string ⟨#[]⟩, .string ⟨#[]⟩, .slice none 0 0] 31)).cell? ⟨w.heap.size + 1, 1, none⟩ = some (Value.bool x.f1) := by go_simp
  have e2 : (((w.alloc (Obj.cells #[.slice A 0 c, .string p0, .string p1, .string p2, .string p3, .string p4, .string p5] 151)).alloc (Obj.cells #[.int .i64 x.f0, .bool x.f1, .int .i64 x.f2, .string x.f3, .string x.f4.f0, .string x.f4.f1, .slice (some ad) x.f5.length kc] 67)).alloc (Obj.cells #[.int .i64 0, .bool false, .int .i64 0, .string ⟨#[]⟩, .string ⟨#[]⟩, .string ⟨#[]⟩, .slice none 0 0] 31)).cell? ⟨w.heap.size + 1, 2, none⟩ = some (Value.int .i64 x.f2) := by go_simp
  have e3 : (((w.alloc (Obj.cells #[.slice A 0 c, .string p0, .string p1, .string p2, .string p3, .string p4, .string p5] 151)).alloc (Obj.cells #[.int .i64 x.f0, .bool x.f1, .int .i64 x.f2, .string x.f3, .string x.f4.f0, .string x.f4.f1, .slice (some ad) x.f5.length kc] 67)).alloc (Obj.cells #[.int .i64 0, .bool false, .int .i64 0, .string ⟨#[]⟩, .string ⟨#[]⟩, .string ⟨#[]⟩, .slice none 0 0] 31)).cell? ⟨w.heap.size + 1, 3, none⟩ = some (Value.string x.f3) := by go_simp
  have e4 : (((w.alloc (Obj.cells #[.slice A 0 c, .string p0, .string p1, .string p2, .string p3, .string p4, .string p5] 151)).alloc (Obj.cells #[.int .i64 x.f0, .bool x.f1, .int .i64 x.f2, .string x.f3, .string x.f4.f0, .string x.f4.f1, .slice (some ad) x.f5.length kc] 67)).alloc (Obj.cells #[.int .i64 0, .bool false, .int .i64 0, .string ⟨#[]⟩, .string ⟨#[]⟩, .string ⟨#[]⟩, .slice none 0 0] 31)).cell? ⟨w.heap.size + 1, 4, none⟩ = some (Value.string x.f4.f0) := by go_simp
  have e5 : (((w.alloc (Obj.cells #[.slice A 0 c, .string p0, .string p1, .string p2, .string p3, .string p4, .string p5] 151)).alloc (Obj.cells #[.int .i64 x.f0, .bool x.f1, .int .i64 x.f2, .string x.f3, .string x.f4.f0, .string x.f4.f1, .slice (some ad) x.f5.length kc] 67)).alloc (Obj.cells #[.int .i64 0, .bool false, .int .i64 0, .string ⟨#[]⟩, .string ⟨#[]⟩, .string ⟨#[]⟩, .slice none 0 0] 31)).cell? ⟨w.heap.size + 1, 5, none⟩ = some (Value.string x.f4.f1) := by go_simp
  have e6 : (((w.alloc (Obj.cells #[.slice A 0 c, .string p0, .string p1, .string p2, .string p3, .string p4, .string p5] 151)).alloc (Obj.cells #[.int .i64 x.f0, .bool x.f1, .int .i64 x.f2, .string x.f3, .string x.f4.f0, .string x.f4.f1, .slice (some ad) x.f5.length kc] 67)).alloc (Obj.cells #[.int .i64 0, .bool false, .int .i64 0, .string ⟨#[]⟩, .string ⟨#[]⟩, .string ⟨#[]⟩, .slice none 0 0] 31)).cell? ⟨w.heap.size + 1, 6, none⟩ = some (Value.slice (some ad) x.f5.length kc) := by go_simp
  have xl : Below w.heap.size w (((w.alloc (Obj.cells #[.slice A 0 c, .string p0, .string p1, .string p2, .string p3, .string p4, .string p5] 151)).alloc (Obj.cells #[.int .i64 x.f0, .bool x.f1, .int .i64 x.f2, .string x.f3, .string x.f4.f0, .string x.f4.f1, .slice (some ad) x.f5.length kc] 67)).alloc (Obj.cells #[.int .i64 0, .bool false, .int .i64 0, .string ⟨#[]⟩, .string ⟨#[]⟩, .string ⟨#[]⟩, .slice none 0 0] 31)) := by repeat (first | exact Below.refl _ _ | apply below_alloc)
  replace z0 := (xl.cell (World.block_lt_of_cell? _ _ z0)).trans z0
  replace z1 := (xl.cell (World.block_lt_of_cell? _ _ z1)).trans z1
  replace z2 := (xl.cell (World.block_lt_of_cell? _ _ z2)).trans z2
  replace z3 := (xl.cell (World.block_lt_of_cell? _ _ z3)).trans z3
  replace z4 := (xl.cell (World.block_lt_of_cell? _ _ z4)).trans z4
  replace z5 := (xl.cell (World.block_lt_of_cell? _ _ z5)).trans z5
  replace z6 := (xl.cell (World.block_lt_of_cell? _ _ z6)).trans z6
  have xb : Box (((w.alloc (Obj.cells #[.slice A 0 c, .string p0, .string p1, .string p2, .string p3, .string p4, .string p5] 151)).alloc (Obj.cells #[.int .i64 x.f0, .bool x.f1, .int .i64 x.f2, .string x.f3, .string x.f4.f0, .string x.f4.f1, .slice (some ad) x.f5.length kc] 67)).alloc (Obj.cells #[.int .i64 0, .bool false, .int .i64 0, .string ⟨#[]⟩, .string ⟨#[]⟩, .string ⟨#[]⟩, .slice none 0 0] 31)) (w.heap.size + 1 + 1) := (by repeat (first | exact blk_at _ _ _ (by simp; done) | (refine (Below.heap_alloc _ _ _ (by first | (simp; done) | (simp; omega))).trans ?_)))
  generalize (((w.alloc (Obj.cells #[.slice A 0 c, .string p0, .string p1, .string p2, .string p3, .string p4, .string p5] 151)).alloc (Obj.cells #[.int .i64 x.f0, .bool x.f1, .int .i64 x.f2, .string x.f3, .string x.f4.f0, .string x.f4.f1, .slice (some ad) x.f5.length kc] 67)).alloc (Obj.cells #[.int .i64 0, .bool false, .int .i64 0, .string ⟨#[]⟩, .string ⟨#[]⟩, .string ⟨#[]⟩, .slice none 0 0] 31)) = V at g0 g1 g2 g3 g4 g5 g6 e0 e1 e2 e3 e4 e5 e6 z0 z1 z2 z3 z4 z5 z6 xb xl ⊢
  replace g0 : V.drew.cell? ⟨w.heap.size, 0, none⟩ = some (Value.slice A 0 c) := g0
  replace g1 : V.drew.cell? ⟨w.heap.size, 1, none⟩ = some (Value.string p0) := g1
  replace g2 : V.drew.cell? ⟨w.heap.size, 2, none⟩ = some (Value.string p1) := g2
  replace g3 : V.drew.cell? ⟨w.heap.size, 3, none⟩ = some (Value.string p2) := g3
  replace g4 : V.drew.cell? ⟨w.heap.size, 4, none⟩ = some (Value.string p3) := g4
  replace g5 : V.drew.cell? ⟨w.heap.size, 5, none⟩ = some (Value.string p4) := g5
  replace g6 : V.drew.cell? ⟨w.heap.size, 6, none⟩ = some (Value.string p5) := g6
  replace e0 : V.drew.cell? ⟨w.heap.size + 1, 0, none⟩ = some (Value.int .i64 x.f0) := e0
  replace e1 : V.drew.cell? ⟨w.heap.size + 1, 1, none⟩ = some (Value.bool x.f1) := e1
  replace e2 : V.drew.cell? ⟨w.heap.size + 1, 2, none⟩ = some (Value.int .i64 x.f2) := e2
  replace e3 : V.drew.cell? ⟨w.heap.size + 1, 3, none⟩ = some (Value.string x.f3) := e3
  replace e4 : V.drew.cell? ⟨w.heap.size + 1, 4, none⟩ = some (Value.string x.f4.f0) := e4
  replace e5 : V.drew.cell? ⟨w.heap.size + 1, 5, none⟩ = some (Value.string x.f4.f1) := e5
  replace e6 : V.drew.cell? ⟨w.heap.size + 1, 6, none⟩ = some (Value.slice (some ad) x.f5.length kc) := e6
  replace z0 : V.drew.cell? ad = some (Value.int .i64 k0.f0) := z0
  replace z1 : V.drew.cell? ⟨ad.block, ad.off + 1, none⟩ = some (Value.bool k0.f1) := z1
  replace z2 : V.drew.cell? ⟨ad.block, ad.off + 2, none⟩ = some (Value.int .i64 k0.f2) := z2
  replace z3 : V.drew.cell? ⟨ad.block, ad.off + 3, none⟩ = some (Value.string k0.f3) := z3
  replace z4 : V.drew.cell? ⟨ad.block, ad.off + 4, none⟩ = some (Value.string k0.f4.f0) := z4
  replace z5 : V.drew.cell? ⟨ad.block, ad.off + 5, none⟩ = some (Value.string k0.f4.f1) := z5
  replace z6 : V.drew.cell? ⟨ad.block, ad.off + 6, none⟩ = some (Value.slice Ak0 k0.f5.length ck0) := z6
  replace xb : Box V.drew (w.heap.size + 1 + 1) := xb
  replace xl : Below w.heap.size w V.drew := below_drew1 xl
  go_region_held3 (fun W => W.cell? ⟨w.heap.size, 0, none⟩ = some (Value.slice A 0 c) ∧ W.cell? ⟨w.heap.size, 1, none⟩ = some (Value.string p0) ∧ W.cell? ⟨w.heap.size, 2, none⟩ = some (Value.string p1) ∧ W.cell? ⟨w.heap.size, 3, none⟩ = some (Value.string p2) ∧ W.cell? ⟨w.heap.size, 4, none⟩ = some (Value.string p3) ∧ W.cell? ⟨w.heap.size, 5, none⟩ = some (Value.string p4) ∧ W.cell? ⟨w.heap.size, 6, none⟩ = some (Value.string p5) ∧ W.cell? ⟨w.heap.size + 1, 0, none⟩ = some (Value.int .i64 x.f0) ∧ W.cell? ⟨w.heap.size + 1, 1, none⟩ = some (Value.bool x.f1) ∧ W.cell? ⟨w.heap.size + 1, 2, none⟩ = some (Value.int .i64 x.f2) ∧ W.cell? ⟨w.heap.size + 1, 3, none⟩ = some (Value.string x.f3) ∧ W.cell? ⟨w.heap.size + 1, 4, none⟩ = some (Value.string x.f4.f0) ∧ W.cell? ⟨w.heap.size + 1, 5, none⟩ = some (Value.string x.f4.f1) ∧ W.cell? ⟨w.heap.size + 1, 6, none⟩ = some (Value.slice (some ad) x.f5.length kc) ∧ W.cell? ad = some (Value.int .i64 k0.f0) ∧ W.cell? ⟨ad.block, ad.off + 1, none⟩ = some (Value.bool k0.f1) ∧ W.cell? ⟨ad.block, ad.off + 2, none⟩ = some (Value.int .i64 k0.f2) ∧ W.cell? ⟨ad.block, ad.off + 3, none⟩ = some (Value.string k0.f3) ∧ W.cell? ⟨ad.block, ad.off + 4, none⟩ = some (Value.string k0.f4.f0) ∧ W.cell? ⟨ad.block, ad.off + 5, none⟩ = some (Value.string k0.f4.f1) ∧ W.cell? ⟨ad.block, ad.off + 6, none⟩ = some (Value.slice Ak0 k0.f5.length ck0) ∧ Box W (w.heap.size + 1 + 1) ∧ Below w.heap.size w W)
    ((first | ((try go_split_ands); refine ⟨?_, ?_, ?_, ?_, ?_, ?_, ?_, ?_, ?_, ?_, ?_, ?_, ?_, ?_, ?_, ?_, ?_, ?_, ?_, ?_, ?_, ?_, ?_⟩ <;> first | (with_reducible assumption) | (with_reducible exact cell_after7 (by with_reducible assumption) (by omega)) | (with_reducible exact below_after7 (by with_reducible assumption) (by omega)) | (with_reducible exact Box.after7 (by with_reducible assumption) (by omega)) | (with_reducible exact (hb.cell (World.block_lt_of_cell? _ _ (by with_reducible assumption))).trans (by with_reducible assumption)) | (with_reducible exact below_step (by with_reducible assumption) hb) | (with_reducible exact Box.mono (by with_reducible assumption) hb))))
    ((go_at_call 158; refine (HA.out _ _ _ _ _ HLk0.out (Kd.C_below HCk0.out xl)).mono ?_; rintro e w' ⟨rfl, hb⟩))
  go_split_ands
  have g0 : w'.cell? ⟨w.heap.size, 0, none⟩ = some (Value.slice A 0 c) := by with_reducible assumption
  have g1 : w'.cell? ⟨w.heap.size, 1, none⟩ = some (Value.string p0) := by with_reducible assumption
  have g2 : w'.cell? ⟨w.heap.size, 2, none⟩ = some (Value.string p1) := by with_reducible assumption
  have g3 : w'.cell? ⟨w.heap.size, 3, none⟩ = some (Value.string p2) := by with_reducible assumption
  have g4 : w'.cell? ⟨w.heap.size, 4, none⟩ = some (Value.string p3) := by with_reducible assumption
  have g5 : w'.cell? ⟨w.heap.size, 5, none⟩ = some (Value.string p4) := by with_reducible assumption
  have g6 : w'.cell? ⟨w.heap.size, 6, none⟩ = some (Value.string p5) := by with_reducible assumption
  have e0 : w'.cell? ⟨w.heap.size + 1, 0, none⟩ = some (Value.int .i64 x.f0) := by with_reducible assumption
  have e1 : w'.cell? ⟨w.heap.size + 1, 1, none⟩ = some (Value.bool x.f1) := by with_reducible assumption
  have e2 : w'.cell? ⟨w.heap.size + 1, 2, none⟩ = some (Value.int .i64 x.f2) := by with_reducible assumption
  have e3 : w'.cell? ⟨w.heap.size + 1, 3, none⟩ = some (Value.string x.f3) := by with_reducible assumption
  have e4 : w'.cell? ⟨w.heap.size + 1, 4, none⟩ = some (Value.string x.f4.f0) := by with_reducible assumption
  have e5 : w'.cell? ⟨w.heap.size + 1, 5, none⟩ = some (Value.string x.f4.f1) := by with_reducible assumption
  have e6 : w'.cell? ⟨w.heap.size + 1, 6, none⟩ = some (Value.slice (some ad) x.f5.length kc) := by with_reducible assumption
  have HB1 : Aside0 (Below w.heap.size w w') := ⟨by with_reducible assumption⟩
  have HBX1 : Aside0 (Box w' (w.heap.size + 1 + 1)) := ⟨by with_reducible assumption⟩
  have hsz1 : w.heap.size + 1 + 1 < w'.heap.size := lt_of_heap HBX1.out
  obtain ⟨ad2, Ak1, ck1, e2_, y0, y1, y2, y3, y4, y5, y6, hlk1, hck1⟩ := exp_at HCC.out 1 k1 hkk1
  obtain rfl : ad = ad2 := by injection e2_
  have h1a : ((1 : Int) < (x.f5.length : Int)) = True := eq_true (by have := (List.getElem?_eq_some_iff.1 hkk1).1; omega)
  have h1n : 1 < x.f5.length := (List.getElem?_eq_some_iff.1 hkk1).1
  simp only [Nat.one_mul, Addr.add_7_] at y0 y1 y2 y3 y4 y5 y6
  have hadb0 := World.block_lt_of_cell? _ _ y0
  have hadb : ad.block < w.heap.size := hadb0
  clear hadb0
  replace y0 := (HB1.out.cell (World.block_lt_of_cell? _ _ y0)).trans y0
  replace y1 := (HB1.out.cell (World.block_lt_of_cell? _ _ y1)).trans y1
  replace y2 := (HB1.out.cell (World.block_lt_of_cell? _ _ y2)).trans y2
  replace y3 := (HB1.out.cell (World.block_lt_of_cell? _ _ y3)).trans y3
  replace y4 := (HB1.out.cell (World.block_lt_of_cell? _ _ y4)).trans y4
  replace y5 := (HB1.out.cell (World.block_lt_of_cell? _ _ y5)).trans y5
  replace y6 := (HB1.out.cell (World.block_lt_of_cell? _ _ y6)).trans y6
  have HLk1 := Aside0.mk hlk1
  have HCk1 := Aside0.mk hck1
  clear hlk1 hck1
  go_wp2_with fail
  replace g0 : w'.drew.cell? ⟨w.heap.size, 0, none⟩ = some (Value.slice A 0 c) := g0
  replace g1 : w'.drew.cell? ⟨w.heap.size, 1, none⟩ = some (Value.string p0) := g1
  replace g2 : w'.drew.cell? ⟨w.heap.size, 2, none⟩ = some (Value.string p1) := g2
  replace g3 : w'.drew.cell? ⟨w.heap.size, 3, none⟩ = some (Value.string p2) := g3
  replace g4 : w'.drew.cell? ⟨w.heap.size, 4, none⟩ = some (Value.string p3) := g4
  replace g5 : w'.drew.cell? ⟨w.heap.size, 5, none⟩ = some (Value.string p4) := g5
  replace g6 : w'.drew.cell? ⟨w.heap.size, 6, none⟩ = some (Value.string p5) := g6
  replace e0 : w'.drew.cell? ⟨w.heap.size + 1, 0, none⟩ = some (Value.int .i64 x.f0) := e0
  replace e1 : w'.drew.cell? ⟨w.heap.size + 1, 1, none⟩ = some (Value.bool x.f1) := e1
  replace e2 : w'.drew.cell? ⟨w.heap.size + 1, 2, none⟩ = some (Value.int .i64 x.f2) := e2
  replace e3 : w'.drew.cell? ⟨w.heap.size + 1, 3, none⟩ = some (Value.string x.f3) := e3
  replace e4 : w'.drew.cell? ⟨w.heap.size + 1, 4, none⟩ = some (Value.string x.f4.f0) := e4
  replace e5 : w'.drew.cell? ⟨w.heap.size + 1, 5, none⟩ = some (Value.string x.f4.f1) := e5
  replace e6 : w'.drew.cell? ⟨w.heap.size + 1, 6, none⟩ = some (Value.slice (some ad) x.f5.length kc) := e6
  replace y0 : w'.drew.cell? ⟨ad.block, ad.off + 7, none⟩ = some (Value.int .i64 k1.f0) := y0
  replace y1 : w'.drew.cell? ⟨ad.block, ad.off + 7 + 1, none⟩ = some (Value.bool k1.f1) := y1
  replace y2 : w'.drew.cell? ⟨ad.block, ad.off + 7 + 2, none⟩ = some (Value.int .i64 k1.f2) := y2
  replace y3 : w'.drew.cell? ⟨ad.block, ad.off + 7 + 3, none⟩ = some (Value.string k1.f3) := y3
  replace y4 : w'.drew.cell? ⟨ad.block, ad.off + 7 + 4, none⟩ = some (Value.string k1.f4.f0) := y4
  replace y5 : w'.drew.cell? ⟨ad.block, ad.off + 7 + 5, none⟩ = some (Value.string k1.f4.f1) := y5
  replace y6 : w'.drew.cell? ⟨ad.block, ad.off + 7 + 6, none⟩ = some (Value.slice Ak1 k1.f5.length ck1) := y6
  have xb : Box w'.drew (w.heap.size + 1 + 1) := HBX1.out
  have xl : Below w.heap.size w w'.drew := below_drew1 HB1.out
  have hsz : w.heap.size + 1 + 1 < w'.drew.heap.size := hsz1
  go_region_held3 (fun W => W.cell? ⟨w.heap.size, 0, none⟩ = some (Value.slice A 0 c) ∧ W.cell? ⟨w.heap.size, 1, none⟩ = some (Value.string p0) ∧ W.cell? ⟨w.heap.size, 2, none⟩ = some (Value.string p1) ∧ W.cell? ⟨w.heap.size, 3, none⟩ = some (Value.string p2) ∧ W.cell? ⟨w.heap.size, 4, none⟩ = some (Value.string p3) ∧ W.cell? ⟨w.heap.size, 5, none⟩ = some (Value.string p4) ∧ W.cell? ⟨w.heap.size, 6, none⟩ = some (Value.string p5) ∧ W.cell? ⟨w.heap.size + 1, 0, none⟩ = some (Value.int .i64 x.f0) ∧ W.cell? ⟨w.heap.size + 1, 1, none⟩ = some (Value.bool x.f1) ∧ W.cell? ⟨w.heap.size + 1, 2, none⟩ = some (Value.int .i64 x.f2) ∧ W.cell? ⟨w.heap.size + 1, 3, none⟩ = some (Value.string x.f3) ∧ W.cell? ⟨w.heap.size + 1, 4, none⟩ = some (Value.string x.f4.f0) ∧ W.cell? ⟨w.heap.size + 1, 5, none⟩ = some (Value.string x.f4.f1) ∧ W.cell? ⟨w.heap.size + 1, 6, none⟩ = some (Value.slice (some ad) x.f5.length kc) ∧ W.cell? ⟨ad.block, ad.off + 7, none⟩ = some (Value.int .i64 k1.f0) ∧ W.cell? ⟨ad.block, ad.off + 7 + 1, none⟩ = some (Value.bool k1.f1) ∧ W.cell? ⟨ad.block, ad.off + 7 + 2, none⟩ = some (Value.int .i64 k1.f2) ∧ W.cell? ⟨ad.block, ad.off + 7 + 3, none⟩ = some (Value.string k1.f3) ∧ W.cell? ⟨ad.block, ad.off + 7 + 4, none⟩ = some (Value.string k1.f4.f0) ∧ W.cell? ⟨ad.block, ad.off + 7 + 5, none⟩ = some (Value.string k1.f4.f1) ∧ W.cell? ⟨ad.block, ad.off + 7 + 6, none⟩ = some (Value.slice Ak1 k1.f5.length ck1) ∧ Box W (w.heap.size + 1 + 1) ∧ Below w.heap.size w W)
    ((first | ((try go_split_ands); refine ⟨?_, ?_, ?_, ?_, ?_, ?_, ?_, ?_, ?_, ?_, ?_, ?_, ?_, ?_, ?_, ?_, ?_, ?_, ?_, ?_, ?_, ?_, ?_⟩ <;> first | (with_reducible assumption) | (with_reducible exact cell_after7 (by with_reducible assumption) (by omega)) | (with_reducible exact below_after7 (by with_reducible assumption) (by omega)) | (with_reducible exact Box.after7 (by with_reducible assumption) (by omega)) | (with_reducible exact (hb.cell (World.block_lt_of_cell? _ _ (by with_reducible assumption))).trans (by with_reducible assumption)) | (with_reducible exact below_step (by with_reducible assumption) hb) | (with_reducible exact Box.mono (by with_reducible assumption) hb))))
    ((go_at_call 158; refine (HE.out _ _ _ _ _ HLk1.out (Kd.C_below HCk1.out xl)).mono ?_; rintro e w2 ⟨rfl, hb⟩))
  go_split_ands
  have HB2 : Aside0 (Below w.heap.size w w2) := ⟨by with_reducible assumption⟩
  have HBX2 : Aside0 (Box w2 (w.heap.size + 1 + 1)) := ⟨by with_reducible assumption⟩
  go_wp2_with (go_at_call 160; refine (hk _).mono ?_; rintro e w3 ⟨rfl, hb⟩; have HB3 : Aside0 (Below w.heap.size w w3) := ⟨below_step HB2.out hb⟩; have HBX3 := Aside0.mk (Box.mono HBX2.out hb); have q0 := HBX3.out.c0; have q1 := HBX3.out.c1; have q2 := HBX3.out.c2; have q3 := HBX3.out.c3; have q4 := HBX3.out.c4; have q5 := HBX3.out.c5; have q6 := HBX3.out.c6; have q7 := HBX3.out.fr; clear hb)
  (try simp only [Exit.inBlock, Exit.then])
  have hd := HBX3.out.done (.int .i64 1) (.bool t2) (.int .i64 0) (.string ⟨#[]⟩) (.string ⟨#[]⟩) (.string ⟨#[]⟩) (.slice none 0 0)
  have hbl := HB3.out.trans (below_cells (B := w.heap.size) (w.heap.size + 1 + 1) (by omega) [.int .i64 1, .bool t2, .int .i64 0, .string ⟨#[]⟩, .string ⟨#[]⟩, .string ⟨#[]⟩, .slice none 0 0] 0 w3)
  simp only [World.setCells] at hd hbl
  refine bodyPost_ret (results_row_tmp rfl _ _ (w.heap.size + 1 + 1) 31 _ (0, 0) _ rfl hd Try.underlying31 rfl (by kernel_rfl)) rfl ?_
  exact ⟨_, rfl, Kd.V_nil _ _ _ _ _, hbl⟩
set_option maxRecDepth 100000 in
set_option maxHeartbeats 16000000 in
theorem choice_both_or (p0 p1 p2 p3 p4 p5 : ByteArray) (x k0 k1 : S67) (hkk0 : x.f5[0]? = some k0) (hkk1 : x.f5[1]? = some k1) (hop : x.f0 = 24) (h : AskOk p0 p1 p2 p3 p4 p5 k0 false 0) (t2 : Bool) (h2 : AskOk p0 p1 p2 p3 p4 p5 k1 t2 0) (A : Option Addr) (c : Nat) (B : Option Addr) (kc : Nat) (w : World) (hl : x.f5.length ≤ kc) (hC : k67.C w B x.f5.length x.f5) :
    Calls Try.prog 137 #[.agg #[.slice A 0 c, .string p0, .string p1, .string p2, .string p3, .string p4, .string p5], .agg #[.int .i64 x.f0, .bool x.f1, .int .i64 x.f2, .string x.f3, .string x.f4.f0, .string x.f4.f1, .slice B x.f5.length kc]] w (Gives w (trV t2) 0) := by
  have HA := Aside0.mk h
  have HE := Aside0.mk h2
  have hk := told_tr t2
  clear h h2
  have hop1 : (x.f0 == 24) = true := beq_iff_eq.mpr hop
  have hop2 : (x.f0 == 25) = false := beq_eq_false_iff_ne.mpr (by omega)
  clear hop
  obtain ⟨ad, Ak0, ck0, rfl, z0, z1, z2, z3, z4, z5, z6, hlk0, hck0⟩ := exp_at hC 0 k0 hkk0
  have h0a : ((0 : Int) < (x.f5.length : Int)) = True := eq_true (by have := (List.getElem?_eq_some_iff.1 hkk0).1; omega)
  have h0n : 0 < x.f5.length := (List.getElem?_eq_some_iff.1 hkk0).1
  simp only [Nat.zero_mul, Addr.add_zero_] at z0 z1 z2 z3 z4 z5 z6
  have HLk0 := Aside0.mk hlk0
  have HCk0 := Aside0.mk hck0
  have HCC := Aside0.mk hC
  clear hlk0 hck0 hC
  go_enter Try.func137, Try.ntmps137
  go_wp2_with fail
  have g0 : (((w.alloc (Obj.cells #[.slice A 0 c, .string p0, .string p1, .string p2, .string p3, .string p4, .string p5] 151)).alloc (Obj.cells #[.int .i64 x.f0, .bool x.f1, .int .i64 x.f2, .string x.f3, .string x.f4.f0, .string x.f4.f1, .slice (some ad) x.f5.length kc] 67)).alloc (Obj.cells #[.int .i64 0, .bool false, .int .i64 0, .string ⟨#[]⟩, .string ⟨#[]⟩, .string ⟨#[]⟩, .slice none 0 0] 31)).cell? ⟨w.heap.size, 0, none⟩ = some (Value.slice A 0 c) := by go_simp
  have g1 : (((w.alloc (Obj.cells #[.slice A 0 c, .string p0, .string p1, .string p2, .string p3, .string p4, .string p5] 151)).alloc (Obj.cells #[.int .i64 x.f0, .bool x.f1, .int .i64 x.f2, .string x.f3, .string x.f4.f0, .string x.f4.f1, .slice (some ad) x.f5.length kc] 67)).alloc (Obj.cells #[.int .i64 0, .bool false, .int .i64 0, .string ⟨#[]⟩, .string ⟨#[]⟩, .string ⟨#[]⟩, .slice none 0 0] 31)).cell? ⟨w.heap.size, 1, none⟩ = some (Value.string p0) := by go_simp
  have g2 : (((w.alloc (Obj.cells #[.slice A 0 c, .string p0, .string p1, .string p2, .string p3, .string p4, .string p5] 151)).alloc (Obj.cells #[.int .i64 x.f0, .bool x.f1, .int .i64 x.f2, .string x.f3, .string x.f4.f0, .string x.f4.f1, .slice (some ad) x.f5.length kc] 67)).alloc (Obj.cells #[.int .i64 0, .bool false, .int .i64 0, .string ⟨#[]⟩, .string ⟨#[]⟩, .string ⟨#[]⟩, .slice none 0 0] 31)).cell? ⟨w.heap.size, 2, none⟩ = some (Value.string p1) := by go_simp
  have g3 : (((w.alloc (Obj.cells #[.slice A 0 c, .string p0, .string p1, .string p2, .string p3, .string p4, .string p5] 151)).alloc (Obj.cells #[.int .i64 x.f0, .bool x.f1, .int .i64 x.f2, .string x.f3, .string x.f4.f0, .string x.f4.f1, .slice (some ad) x.f5.length kc] 67)).alloc (Obj.cells #[.int .i64 0, .bool false, .int .i64 0, .string ⟨#[]⟩, .string ⟨#[]⟩, .string ⟨#[]⟩, .slice none 0 0] 31)).cell? ⟨w.heap.size, 3, none⟩ = some (Value.string p2) := by go_simp
  have g4 : (((w.alloc (Obj.cells #[.slice A 0 c, .string p0, .string p1, .string p2, .string p3, .string p4, .string p5] 151)).alloc (Obj.cells #[.int .i64 x.f0, .bool x.f1, .int .i64 x.f2, .string x.f3, .string x.f4.f0, .string x.f4.f1, .slice (some ad) x.f5.length kc] 67)).alloc (Obj.cells #[.int .i64 0, .bool false, .int .i64 0, .string ⟨#[]⟩, .string ⟨#[]⟩, .string ⟨#[]⟩, .slice none 0 0] 31)).cell? ⟨w.heap.size, 4, none⟩ = some (Value.string p3) := by go_simp
  have g5 : (((w.alloc (Obj.cells #[.slice A 0 c, .string p0, .string p1, .string p2, .string p3, .string p4, .string p5] 151)).alloc (Obj.cells #[.int .i64 x.f0, .bool x.f1, .int .i64 x.f2, .string x.f3, .string x.f4.f0, .string x.f4.f1, .slice (some ad) x.f5.length kc] 67)).alloc (Obj.cells #[.int .i64 0, .bool false, .int .i64 0, .string ⟨#[]⟩, .string ⟨#[]⟩, .string ⟨#[]⟩, .slice none 0 0] 31)).cell? ⟨w.heap.size, 5, none⟩ = some (Value.string p4) := by go_simp
  have g6 : (((w.alloc (Obj.cells #[.slice A 0 c, .string p0, .string p1, .string p2, .string p3, .string p4, .string p5] 151)).alloc (Obj.cells #[.int .i64 x.f0, .bool x.f1, .int .i64 x.f2, .string x.f3, .string x.f4.f0, .string x.f4.f1, .slice (some ad) x.f5.length kc] 67)).alloc (Obj.cells #[.int .i64 0, .bool false, .int .i64 0, .string ⟨#[]⟩, .string ⟨#[]⟩, .string ⟨#[]⟩, .slice none 0 0] 31)).cell? ⟨w.heap.size, 6, none⟩ = some (Value.string p5) := by go_simp
  have e0 : (((w.alloc (Obj.cells #[.slice A 0 c, .string p0, .string p1, .string p2, .string p3, .string p4, .string p5] 151)).alloc (Obj.cells #[.int .i64 x.f0, .bool x.f1, .int .i64 x.f2, .string x.f3, .string x.f4.f0, .string x.f4.f1, .slice (some ad) x.f5.length kc] 67)).alloc (Obj.cells #[.int .i64 0, .bool false, .int .i64 0, .string ⟨#[]⟩, .string ⟨#[]⟩, .string ⟨#[]⟩, .slice none 0 0] 31)).cell? ⟨w.heap.size + 1, 0, none⟩ = some (Value.int .i64 x.f0) := by go_simp
  have e1 : (((w.alloc (Obj.cells #[.slice A 0 c, .string p0, .string p1, .string p2, .string p3, .string p4, .string p5] 151)).alloc (Obj.cells #[.int .i64 x.f0, .bool x.f1, .int .i64 x.f2, .string x.f3, .string x.f4.f0, .string x.f4.f1, .slice (some ad) x.f5.length kc] 67)).alloc (Obj.cells #[.int .i64 0, .bool false, .int .i64 0, .string ⟨#[]⟩, .string ⟨#[]⟩, .string ⟨#[]⟩, .slice none 0 0] 31)).cell? ⟨w.heap.size + 1, 1, none⟩ = some (Value.bool x.f1) := by go_simp
  have e2 : (((w.alloc (Obj.cells #[.slice A 0 c, .string p0, .string p1, .string p2, .string p3, .string p4, .string p5] 151)).alloc (Obj.cells #[.int .i64 x.f0, .bool x.f1, .int .i64 x.f2, .string x.f3, .string x.f4.f0, .string x.f4.f1, .slice (some ad) x.f5.length kc] 67)).alloc (Obj.cells #[.int .i64 0, .bool false, .int .i64 0, .string ⟨#[]⟩, .string ⟨#[]⟩, .string ⟨#[]⟩, .slice none 0 0] 31)).cell? ⟨w.heap.size + 1, 2, none⟩ = some (Value.int .i64 x.f2) := by go_simp
  have e3 : (((w.alloc (Obj.cells #[.slice A 0 c, .string p0, .string p1, .string p2, .string p3, .string p4, .string p5] 151)).alloc (Obj.cells #[.int .i64 x.f0, .bool x.f1, .int .i64 x.f2, .string x.f3, .string x.f4.f0, .string x.f4.f1, .slice (some ad) x.f5.length kc] 67)).alloc (Obj.cells #[.int .i64 0, .bool false, .int .i64 0, .string ⟨#[]⟩, .string ⟨#[]⟩, .string ⟨#[]⟩, .slice none 0 0] 31)).cell? ⟨w.heap.size + 1, 3, none⟩ = some (Value.string x.f3) := by go_simp
  have e4 : (((w.alloc (Obj.cells #[.slice A 0 c, .string p0, .string p1, .string p2, .string p3, .string p4, .string p5] 151)).alloc (Obj.cells #[.int .i64 x.f0, .bool x.f1, .int .i64 x.f2, .string x.f3, .string x.f4.f0, .string x.f4.f1, .slice (some ad) x.f5.length kc] 67)).alloc (Obj.cells #[.int .i64 0, .bool false, .int .i64 0, .string ⟨#[]⟩, .string ⟨#[]⟩, .string ⟨#[]⟩, .slice none 0 0] 31)).cell? ⟨w.heap.size + 1, 4, none⟩ = some (Value.string x.f4.f0) := by go_simp
  have e5 : (((w.alloc (Obj.cells #[.slice A 0 c, .string p0, .string p1, .string p2, .string p3, .string p4, .string p5] 151)).alloc (Obj.cells #[.int .i64 x.f0, .bool x.f1, .int .i64 x.f2, .string x.f3, .string x.f4.f0, .string x.f4.f1, .slice (some ad) x.f5.length kc] 67)).alloc (Obj.cells #[.int .i64 0, .bool false, .int .i64 0, .string ⟨#[]⟩, .string ⟨#[]⟩, .string ⟨#[]⟩, .slice none 0 0] 31)).cell? ⟨w.heap.size + 1, 5, none⟩ = some (Value.string x.f4.f1) := by go_simp
  have e6 : (((w.alloc (Obj.cells #[.slice A 0 c, .string p0, .string p1, .string p2, .string p3, .string p4, .string p5] 151)).alloc (Obj.cells #[.int .i64 x.f0, .bool x.f1, .int .i64 x.f2, .string x.f3, .string x.f4.f0, .string x.f4.f1, .slice (some ad) x.f5.length kc] 67)).alloc (Obj.cells #[.int .i64 0, .bool false, .int .i64 0, .string ⟨#[]⟩, .string ⟨#[]⟩, .string ⟨#[]⟩, .slice none 0 0] 31)).cell? ⟨w.heap.size + 1, 6, none⟩ = some (Value.slice (some ad) x.f5.length kc) := by go_simp
  have xl : Below w.heap.size w (((w.alloc (Obj.cells #[.slice A 0 c, .string p0, .string p1, .string p2, .string p3, .string p4, .string p5] 151)).alloc (Obj.cells #[.int .i64 x.f0, .bool x.f1, .int .i64 x.f2, .string x.f3, .string x.f4.f0, .string x.f4.f1, .slice (some ad) x.f5.length kc] 67)).alloc (Obj.cells #[.int .i64 0, .bool false, .int .i64 0, .string ⟨#[]⟩, .string ⟨#[]⟩, .string ⟨#[]⟩, .slice none 0 0] 31)) := by repeat (first | exact Below.refl _ _ | apply below_alloc)
  replace z0 := (xl.cell (World.block_lt_of_cell? _ _ z0)).trans z0
  replace z1 := (xl.cell (World.block_lt_of_cell? _ _ z1)).trans z1
  replace z2 := (xl.cell (World.block_lt_of_cell? _ _ z2)).trans z2
  replace z3 := (xl.cell (World.block_lt_of_cell? _ _ z3)).trans z3
  replace z4 := (xl.cell (World.block_lt_of_cell? _ _ z4)).trans z4
  replace z5 := (xl.cell (World.block_lt_of_cell? _ _ z5)).trans z5
  replace z6 := (xl.cell (World.block_lt_of_cell? _ _ z6)).trans z6
  have xb : Box (((w.alloc (Obj.cells #[.slice A 0 c, .string p0, .string p1, .string p2, .string p3, .string p4, .string p5] 151)).alloc (Obj.cells #[.int .i64 x.f0, .bool x.f1, .int .i64 x.f2, .string x.f3, .string x.f4.f0, .string x.f4.f1, .slice (some ad) x.f5.length kc] 67)).alloc (Obj.cells #[.int .i64 0, .bool false, .int .i64 0, .string ⟨#[]⟩, .string ⟨#[]⟩, .string ⟨#[]⟩, .slice none 0 0] 31)) (w.heap.size + 1 + 1) := (by repeat (first | exact blk_at _ _ _ (by simp; done) | (refine (Below.heap_alloc _ _ _ (by first | (simp; done) | (simp; omega))).trans ?_)))
  generalize (((w.alloc (Obj.cells #[.slice A 0 c, .string p0, .string p1, .string p2, .string p3, .string p4, .string p5] 151)).alloc (Obj.cells #[.int .i64 x.f0, .bool x.f1, .int .i64 x.f2, .string x.f3, .string x.f4.f0, .string x.f4.f1, .slice (some ad) x.f5.length kc] 67)).alloc (Obj.cells #[.int .i64 0, .bool false, .int .i64 0, .string ⟨#[]⟩, .string ⟨#[]⟩, .string ⟨#[]⟩, .slice none 0 0] 31)) = V at g0 g1 g2 g3 g4 g5 g6 e0 e1 e2 e3 e4 e5 e6 z0 z1 z2 z3 z4 z5 z6 xb xl ⊢
  replace g0 : V.drew.cell? ⟨w.heap.size, 0, none⟩ = some (Value.slice A 0 c) := g0
  replace g1 : V.drew.cell? ⟨w.heap.size, 1, none⟩ = some (Value.string p0) := g1
  replace g2 : V.drew.cell? ⟨w.heap.size, 2, none⟩ = some (Value.string p1) := g2
  replace g3 : V.drew.cell? ⟨w.heap.size, 3, none⟩ = some (Value.string p2) := g3
  replace g4 : V.drew.cell? ⟨w.heap.size, 4, none⟩ = some (Value.string p3) := g4
  replace g5 : V.drew.cell? ⟨w.heap.size, 5, none⟩ = some (Value.string p4) := g5
  replace g6 : V.drew.cell? ⟨w.heap.size, 6, none⟩ = some (Value.string p5) := g6
  replace e0 : V.drew.cell? ⟨w.heap.size + 1, 0, none⟩ = some (Value.int .i64 x.f0) := e0
  replace e1 : V.drew.cell? ⟨w.heap.size + 1, 1, none⟩ = some (Value.bool x.f1) := e1
  replace e2 : V.drew.cell? ⟨w.heap.size + 1, 2, none⟩ = some (Value.int .i64 x.f2) := e2
  replace e3 : V.drew.cell? ⟨w.heap.size + 1, 3, none⟩ = some (Value.string x.f3) := e3
  replace e4 : V.drew.cell? ⟨w.heap.size + 1, 4, none⟩ = some (Value.string x.f4.f0) := e4
  replace e5 : V.drew.cell? ⟨w.heap.size + 1, 5, none⟩ = some (Value.string x.f4.f1) := e5
  replace e6 : V.drew.cell? ⟨w.heap.size + 1, 6, none⟩ = some (Value.slice (some ad) x.f5.length kc) := e6
  replace z0 : V.drew.cell? ad = some (Value.int .i64 k0.f0) := z0
  replace z1 : V.drew.cell? ⟨ad.block, ad.off + 1, none⟩ = some (Value.bool k0.f1) := z1
  replace z2 : V.drew.cell? ⟨ad.block, ad.off + 2, none⟩ = some (Value.int .i64 k0.f2) := z2
  replace z3 : V.drew.cell? ⟨ad.block, ad.off + 3, none⟩ = some (Value.string k0.f3) := z3
  replace z4 : V.drew.cell? ⟨ad.block, ad.off + 4, none⟩ = some (Value.string k0.f4.f0) := z4
  replace z5 : V.drew.cell? ⟨ad.block, ad.off + 5, none⟩ = some (Value.string k0.f4.f1) := z5
  replace z6 : V.drew.cell? ⟨ad.block, ad.off + 6, none⟩ = some (Value.slice Ak0 k0.f5.length ck0) := z6
  replace xb : Box V.drew (w.heap.size + 1 + 1) := xb
  replace xl : Below w.heap.size w V.drew := below_drew1 xl
  go_region_held3 (fun W => W.cell? ⟨w.heap.size, 0, none⟩ = some (Value.slice A 0 c) ∧ W.cell? ⟨w.heap.size, 1, none⟩ = some (Value.string p0) ∧ W.cell? ⟨w.heap.size, 2, none⟩ = some (Value.string p1) ∧ W.cell? ⟨w.heap.size, 3, none⟩ = some (Value.string p2) ∧ W.cell? ⟨w.heap.size, 4, none⟩ = some (Value.string p3) ∧ W.cell? ⟨w.heap.size, 5, none⟩ = some (Value.string p4) ∧ W.cell? ⟨w.heap.size, 6, none⟩ = some (Value.string p5) ∧ W.cell? ⟨w.heap.size + 1, 0, none⟩ = some (Value.int .i64 x.f0) ∧ W.cell? ⟨w.heap.size + 1, 1, none⟩ = some (Value.bool x.f1) ∧ W.cell? ⟨w.heap.size + 1, 2, none⟩ = some (Value.int .i64 x.f2) ∧ W.cell? ⟨w.heap.size + 1, 3, none⟩ = some (Value.string x.f3) ∧ W.cell? ⟨w.heap.size + 1, 4, none⟩ = some (Value.string x.f4.f0) ∧ W.cell? ⟨w.heap.size + 1, 5, none⟩ = some (Value.string x.f4.f1) ∧ W.cell? ⟨w.heap.size + 1, 6, none⟩ = some (Value.slice (some ad) x.f5.length kc) ∧ W.cell? ad = some (Value.int .i64 k0.f0) ∧ W.cell? ⟨ad.block, ad.off + 1, none⟩ = some (Value.bool k0.f1) ∧ W.cell? ⟨ad.block, ad.off + 2, none⟩ = some (Value.int .i64 k0.f2) ∧ W.cell? ⟨ad.block, ad.off + 3, none⟩ = some (Value.string k0.f3) ∧ W.cell? ⟨ad.block, ad.off + 4, none⟩ = some (Value.string k0.f4.f0) ∧ W.cell? ⟨ad.block, ad.off + 5, none⟩ = some (Value.string k0.f4.f1) ∧ W.cell? ⟨ad.block, ad.off + 6, none⟩ = some (Value.slice Ak0 k0.f5.length ck0) ∧ Box W (w.heap.size + 1 + 1) ∧ Below w.heap.size w W)
    ((first | ((try go_split_ands); refine ⟨?_, ?_, ?_, ?_, ?_, ?_, ?_, ?_, ?_, ?_, ?_, ?_, ?_, ?_, ?_, ?_, ?_, ?_, ?_, ?_, ?_, ?_, ?_⟩ <;> first | (with_reducible assumption) | (with_reducible exact cell_after7 (by with_reducible assumption) (by omega)) | (with_reducible exact below_after7 (by with_reducible assumption) (by omega)) | (with_reducible exact Box.after7 (by with_reducible assumption) (by omega)) | (with_reducible exact (hb.cell (World.block_lt_of_cell? _ _ (by with_reducible assumption))).trans (by with_reducible assumption)) | (with_reducible exact below_step (by with_reducible assumption) hb) | (with_reducible exact Box.mono (by with_reducible assumption) hb))))
    ((go_at_call 158; refine (HA.out _ _ _ _ _ HLk0.out (Kd.C_below HCk0.out xl)).mono ?_; rintro e w' ⟨rfl, hb⟩))
  go_split_ands
  have g0 : w'.cell? ⟨w.heap.size, 0, none⟩ = some (Value.slice A 0 c) := by with_reducible assumption
  have g1 : w'.cell? ⟨w.heap.size, 1, none⟩ = some (Value.string p0) := by with_reducible assumption
  have g2 : w'.cell? ⟨w.heap.size, 2, none⟩ = some (Value.string p1) := by with_reducible assumption
  have g3 : w'.cell? ⟨w.heap.size, 3, none⟩ = some (Value.string p2) := by with_reducible assumption
  have g4 : w'.cell? ⟨w.heap.size, 4, none⟩ = some (Value.string p3) := by with_reducible assumption
  have g5 : w'.cell? ⟨w.heap.size, 5, none⟩ = some (Value.string p4) := by with_reducible assumption
  have g6 : w'.cell? ⟨w.heap.size, 6, none⟩ = some (Value.string p5) := by with_reducible assumption
  have e0 : w'.cell? ⟨w.heap.size + 1, 0, none⟩ = some (Value.int .i64 x.f0) := by with_reducible assumption
  have e1 : w'.cell? ⟨w.heap.size + 1, 1, none⟩ = some (Value.bool x.f1) := by with_reducible assumption
  have e2 : w'.cell? ⟨w.heap.size + 1, 2, none⟩ = some (Value.int .i64 x.f2) := by with_reducible assumption
  have e3 : w'.cell? ⟨w.heap.size + 1, 3, none⟩ = some (Value.string x.f3) := by with_reducible assumption
  have e4 : w'.cell? ⟨w.heap.size + 1, 4, none⟩ = some (Value.string x.f4.f0) := by with_reducible assumption
  have e5 : w'.cell? ⟨w.heap.size + 1, 5, none⟩ = some (Value.string x.f4.f1) := by with_reducible assumption
  have e6 : w'.cell? ⟨w.heap.size + 1, 6, none⟩ = some (Value.slice (some ad) x.f5.length kc) := by with_reducible assumption
  have HB1 : Aside0 (Below w.heap.size w w') := ⟨by with_reducible assumption⟩
  have HBX1 : Aside0 (Box w' (w.heap.size + 1 + 1)) := ⟨by with_reducible assumption⟩
  have hsz1 : w.heap.size + 1 + 1 < w'.heap.size := lt_of_heap HBX1.out
  obtain ⟨ad2, Ak1, ck1, e2_, y0, y1, y2, y3, y4, y5, y6, hlk1, hck1⟩ := exp_at HCC.out 1 k1 hkk1
  obtain rfl : ad = ad2 := by injection e2_
  have h1a : ((1 : Int) < (x.f5.length : Int)) = True := eq_true (by have := (List.getElem?_eq_some_iff.1 hkk1).1; omega)
  have h1n : 1 < x.f5.length := (List.getElem?_eq_some_iff.1 hkk1).1
  simp only [Nat.one_mul, Addr.add_7_] at y0 y1 y2 y3 y4 y5 y6
  have hadb0 := World.block_lt_of_cell? _ _ y0
  have hadb : ad.block < w.heap.size := hadb0
  clear hadb0
  replace y0 := (HB1.out.cell (World.block_lt_of_cell? _ _ y0)).trans y0
  replace y1 := (HB1.out.cell (World.block_lt_of_cell? _ _ y1)).trans y1
  replace y2 := (HB1.out.cell (World.block_lt_of_cell? _ _ y2)).trans y2
  replace y3 := (HB1.out.cell (World.block_lt_of_cell? _ _ y3)).trans y3
  replace y4 := (HB1.out.cell (World.block_lt_of_cell? _ _ y4)).trans y4
  replace y5 := (HB1.out.cell (World.block_lt_of_cell? _ _ y5)).trans y5
  replace y6 := (HB1.out.cell (World.block_lt_of_cell? _ _ y6)).trans y6
  have HLk1 := Aside0.mk hlk1
  have HCk1 := Aside0.mk hck1
  clear hlk1 hck1
  go_wp2_with fail
  replace g0 : w'.drew.cell? ⟨w.heap.size, 0, none⟩ = some (Value.slice A 0 c) := g0
  replace g1 : w'.drew.cell? ⟨w.heap.size, 1, none⟩ = some (Value.string p0) := g1
  replace g2 : w'.drew.cell? ⟨w.heap.size, 2, none⟩ = some (Value.string p1) := g2
  replace g3 : w'.drew.cell? ⟨w.heap.size, 3, none⟩ = some (Value.string p2) := g3
  replace g4 : w'.drew.cell? ⟨w.heap.size, 4, none⟩ = some (Value.string p3) := g4
  replace g5 : w'.drew.cell? ⟨w.heap.size, 5, none⟩ = some (Value.string p4) := g5
  replace g6 : w'.drew.cell? ⟨w.heap.size, 6, none⟩ = some (Value.string p5) := g6
  replace e0 : w'.drew.cell? ⟨w.heap.size + 1, 0, none⟩ = some (Value.int .i64 x.f0) := e0
  replace e1 : w'.drew.cell? ⟨w.heap.size + 1, 1, none⟩ = some (Value.bool x.f1) := e1
  replace e2 : w'.drew.cell? ⟨w.heap.size + 1, 2, none⟩ = some (Value.int .i64 x.f2) := e2
  replace e3 : w'.drew.cell? ⟨w.heap.size + 1, 3, none⟩ = some (Value.string x.f3) := e3
  replace e4 : w'.drew.cell? ⟨w.heap.size + 1, 4, none⟩ = some (Value.string x.f4.f0) := e4
  replace e5 : w'.drew.cell? ⟨w.heap.size + 1, 5, none⟩ = some (Value.string x.f4.f1) := e5
  replace e6 : w'.drew.cell? ⟨w.heap.size + 1, 6, none⟩ = some (Value.slice (some ad) x.f5.length kc) := e6
  replace y0 : w'.drew.cell? ⟨ad.block, ad.off + 7, none⟩ = some (Value.int .i64 k1.f0) := y0
  replace y1 : w'.drew.cell? ⟨ad.block, ad.off + 7 + 1, none⟩ = some (Value.bool k1.f1) := y1
  replace y2 : w'.drew.cell? ⟨ad.block, ad.off + 7 + 2, none⟩ = some (Value.int .i64 k1.f2) := y2
  replace y3 : w'.drew.cell? ⟨ad.block, ad.off + 7 + 3, none⟩ = some (Value.string k1.f3) := y3
  replace y4 : w'.drew.cell? ⟨ad.block, ad.off + 7 + 4, none⟩ = some (Value.string k1.f4.f0) := y4
  replace y5 : w'.drew.cell? ⟨ad.block, ad.off + 7 + 5, none⟩ = some (Value.string k1.f4.f1) := y5
  replace y6 : w'.drew.cell? ⟨ad.block, ad.off + 7 + 6, none⟩ = some (Value.slice Ak1 k1.f5.length ck1) := y6
  have xb : Box w'.drew (w.heap.size + 1 + 1) := HBX1.out
  have xl : Below w.heap.size w w'.drew := below_drew1 HB1.out
  have hsz : w.heap.size + 1 + 1 < w'.drew.heap.size := hsz1
  go_region_held3 (fun W => W.cell? ⟨w.heap.size, 0, none⟩ = some (Value.slice A 0 c) ∧ W.cell? ⟨w.heap.size, 1, none⟩ = some (Value.string p0) ∧ W.cell? ⟨w.heap.size, 2, none⟩ = some (Value.string p1) ∧ W.cell? ⟨w.heap.size, 3, none⟩ = some (Value.string p2) ∧ W.cell? ⟨w.heap.size, 4, none⟩ = some (Value.string p3) ∧ W.cell? ⟨w.heap.size, 5, none⟩ = some (Value.string p4) ∧ W.cell? ⟨w.heap.size, 6, none⟩ = some (Value.string p5) ∧ W.cell? ⟨w.heap.size + 1, 0, none⟩ = some (Value.int .i64 x.f0) ∧ W.cell? ⟨w.heap.size + 1, 1, none⟩ = some (Value.bool x.f1) ∧ W.cell? ⟨w.heap.size + 1, 2, none⟩ = some (Value.int .i64 x.f2) ∧ W.cell? ⟨w.heap.size + 1, 3, none⟩ = some (Value.string x.f3) ∧ W.cell? ⟨w.heap.size + 1, 4, none⟩ = some (Value.string x.f4.f0) ∧ W.cell? ⟨w.heap.size + 1, 5, none⟩ = some (Value.string x.f4.f1) ∧ W.cell? ⟨w.heap.size + 1, 6, none⟩ = some (Value.slice (some ad) x.f5.length kc) ∧ W.cell? ⟨ad.block, ad.off + 7, none⟩ = some (Value.int .i64 k1.f0) ∧ W.cell? ⟨ad.block, ad.off + 7 + 1, none⟩ = some (Value.bool k1.f1) ∧ W.cell? ⟨ad.block, ad.off + 7 + 2, none⟩ = some (Value.int .i64 k1.f2) ∧ W.cell? ⟨ad.block, ad.off + 7 + 3, none⟩ = some (Value.string k1.f3) ∧ W.cell? ⟨ad.block, ad.off + 7 + 4, none⟩ = some (Value.string k1.f4.f0) ∧ W.cell? ⟨ad.block, ad.off + 7 + 5, none⟩ = some (Value.string k1.f4.f1) ∧ W.cell? ⟨ad.block, ad.off + 7 + 6, none⟩ = some (Value.slice Ak1 k1.f5.length ck1) ∧ Box W (w.heap.size + 1 + 1) ∧ Below w.heap.size w W)
    ((first | ((try go_split_ands); refine ⟨?_, ?_, ?_, ?_, ?_, ?_, ?_, ?_, ?_, ?_, ?_, ?_, ?_, ?_, ?_, ?_, ?_, ?_, ?_, ?_, ?_, ?_, ?_⟩ <;> first | (with_reducible assumption) | (with_reducible exact cell_after7 (by with_reducible assumption) (by omega)) | (with_reducible exact below_after7 (by with_reducible assumption) (by omega)) | (with_reducible exact Box.after7 (by with_reducible assumption) (by omega)) | (with_reducible exact (hb.cell (World.block_lt_of_cell? _ _ (by with_reducible assumption))).trans (by with_reducible assumption)) | (with_reducible exact below_step (by with_reducible assumption) hb) | (with_reducible exact Box.mono (by with_reducible assumption) hb))))
    ((go_at_call 158; refine (HE.out _ _ _ _ _ HLk1.out (Kd.C_below HCk1.out xl)).mono ?_; rintro e w2 ⟨rfl, hb⟩))
  go_split_ands
  have HB2 : Aside0 (Below w.heap.size w w2) := ⟨by with_reducible assumption⟩
  have HBX2 : Aside0 (Box w2 (w.heap.size + 1 + 1)) := ⟨by with_reducible assumption⟩
  go_wp2_with (go_at_call 160; refine (hk _).mono ?_; rintro e w3 ⟨rfl, hb⟩; have HB3 : Aside0 (Below w.heap.size w w3) := ⟨below_step HB2.out hb⟩; have HBX3 := Aside0.mk (Box.mono HBX2.out hb); have q0 := HBX3.out.c0; have q1 := HBX3.out.c1; have q2 := HBX3.out.c2; have q3 := HBX3.out.c3; have q4 := HBX3.out.c4; have q5 := HBX3.out.c5; have q6 := HBX3.out.c6; have q7 := HBX3.out.fr; clear hb)
  (try simp only [Exit.inBlock, Exit.then])
  have hd := HBX3.out.done (.int .i64 1) (.bool t2) (.int .i64 0) (.string ⟨#[]⟩) (.string ⟨#[]⟩) (.string ⟨#[]⟩) (.slice none 0 0)
  have hbl := HB3.out.trans (below_cells (B := w.heap.size) (w.heap.size + 1 + 1) (by omega) [.int .i64 1, .bool t2, .int .i64 0, .string ⟨#[]⟩, .string ⟨#[]⟩, .string ⟨#[]⟩, .slice none 0 0] 0 w3)
  simp only [World.setCells] at hd hbl
  refine bodyPost_ret (results_row_tmp rfl _ _ (w.heap.size + 1 + 1) 31 _ (0, 0) _ rfl hd Try.underlying31 rfl (by kernel_rfl)) rfl ?_
  exact ⟨_, rfl, Kd.V_nil _ _ _ _ _, hbl⟩
set_option maxRecDepth 100000 in
set_option maxHeartbeats 16000000 in
theorem choice_second_and (p0 p1 p2 p3 p4 p5 : ByteArray) (x k0 k1 : S67) (hkk0 : x.f5[0]? = some k0) (hkk1 : x.f5[1]? = some k1) (hop : x.f0 ≠ 24) (hop5 : x.f0 ≠ 25) (h : AskOk p0 p1 p2 p3 p4 p5 k0 true 0) (t2 : Bool) (er : Int) (her : er ≠ 0) (h2 : AskOk p0 p1 p2 p3 p4 p5 k1 t2 er) (A : Option Addr) (c : Nat) (B : Option Addr) (kc : Nat) (w : World) (hl : x.f5.length ≤ kc) (hC : k67.C w B x.f5.length x.f5) :
    Calls Try.prog 137 #[.agg #[.slice A 0 c, .string p0, .string p1, .string p2, .string p3, .string p4, .string p5], .agg #[.int .i64 x.f0, .bool x.f1, .int .i64 x.f2, .string x.f3, .string x.f4.f0, .string x.f4.f1, .slice B x.f5.length kc]] w (Gives w zV er) := by
  have HA := Aside0.mk h
  have HE := Aside0.mk h2
  have hk := told_err (.iface 226 (.bool t2)) er her
  clear h h2
  clear her
  have hop1 : (x.f0 == 24) = false := beq_eq_false_iff_ne.mpr hop
  have hop2 : (x.f0 == 25) = false := beq_eq_false_iff_ne.mpr hop5
  clear hop hop5
  obtain ⟨ad, Ak0, ck0, rfl, z0, z1, z2, z3, z4, z5, z6, hlk0, hck0⟩ := exp_at hC 0 k0 hkk0
  have h0a : ((0 : Int) < (x.f5.length : Int)) = True := eq_true (by have := (List.getElem?_eq_some_iff.1 hkk0).1; omega)
  have h0n : 0 < x.f5.length := (List.getElem?_eq_some_iff.1 hkk0).1
  simp only [Nat.zero_mul, Addr.add_zero_] at z0 z1 z2 z3 z4 z5 z6
  have HLk0 := Aside0.mk hlk0
  have HCk0 := Aside0.mk hck0
  have HCC := Aside0.mk hC
  clear hlk0 hck0 hC
  go_enter Try.func137, Try.ntmps137
  go_wp2_with fail
  have g0 : (((w.alloc (Obj.cells #[.slice A 0 c, .string p0, .string p1, .string p2, .string p3, .string p4, .string p5] 151)).alloc (Obj.cells #[.int .i64 x.f0, .bool x.f1, .int .i64 x.f2, .string x.f3, .string x.f4.f0, .string x.f4.f1, .slice (some ad) x.f5.length kc] 67)).alloc (Obj.cells #[.int .i64 0, .bool false, .int .i64 0, .string ⟨#[]⟩, .string ⟨#[]⟩, .string ⟨#[]⟩, .slice none 0 0] 31)).cell? ⟨w.heap.size, 0, none⟩ = some (Value.slice A 0 c) := by go_simp
  have g1 : (((w.alloc (Obj.cells #[.slice A 0 c, .string p0, .string p1, .string p2, .string p3, .string p4, .string p5] 151)).alloc (Obj.cells #[.int .i64 x.f0, .bool x.f1, .int .i64 x.f2, .string x.f3, .string x.f4.f0, .string x.f4.f1, .slice (some ad) x.f5.length kc] 67)).alloc (Obj.cells #[.int .i64 0, .bool false, .int .i64 0, .string ⟨#[]⟩, .string ⟨#[]⟩, .string ⟨#[]⟩, .slice none 0 0] 31)).cell? ⟨w.heap.size, 1, none⟩ = some (Value.string p0) := by go_simp
  have g2 : (((w.alloc (Obj.cells #[.slice A 0 c, .string p0, .string p1, .string p2, .string p3, .string p4, .string p5] 151)).alloc (Obj.cells #[.int .i64 x.f0, .bool x.f1, .int .i64 x.f2, .string x.f3, .string x.f4.f0, .string x.f4.f1, .slice (some ad) x.f5.length kc] 67)).alloc (Obj.cells #[.int .i64 0, .bool false, .int .i64 0, .string ⟨#[]⟩, .string ⟨#[]⟩, .string ⟨#[]⟩, .slice none 0 0] 31)).cell? ⟨w.heap.size, 2, none⟩ = some (Value.string p1) := by go_simp
  have g3 : (((w.alloc (Obj.cells #[.slice A 0 c, .string p0, .string p1, .string p2, .string p3, .string p4, .string p5] 151)).alloc (Obj.cells #[.int .i64 x.f0, .bool x.f1, .int .i64 x.f2, .string x.f3, .string x.f4.f0, .string x.f4.f1, .slice (some ad) x.f5.length kc] 67)).alloc (Obj.cells #[.int .i64 0, .bool false, .int .i64 0, .string ⟨#[]⟩, .string ⟨#[]⟩, .string ⟨#[]⟩, .slice none 0 0] 31)).cell? ⟨w.heap.size, 3, none⟩ = some (Value.string p2) := by go_simp
  have g4 : (((w.alloc (Obj.cells #[.slice A 0 c, .string p0, .string p1, .string p2, .string p3, .string p4, .string p5] 151)).alloc (Obj.cells #[.int .i64 x.f0, .bool x.f1, .int .i64 x.f2, .string x.f3, .string x.f4.f0, .string x.f4.f1, .slice (some ad) x.f5.length kc] 67)).alloc (Obj.cells #[.int .i64 0, .bool false, .int .i64 0, .string ⟨#[]⟩, .string ⟨#[]⟩, .string ⟨#[]⟩, .slice none 0 0] 31)).cell? ⟨w.heap.size, 4, none⟩ = some (Value.string p3) := by go_simp
  have g5 : (((w.alloc (Obj.cells #[.slice A 0 c, .string p0, .string p1, .string p2, .string p3, .string p4, .string p5] 151)).alloc (Obj.cells #[.int .i64 x.f0, .bool x.f1, .int .i64 x.f2, .string x.f3, .string x.f4.f0, .string x.f4.f1, .slice (some ad) x.f5.length kc] 67)).alloc (Obj.cells #[.int .i64 0, .bool false, .int .i64 0, .string ⟨#[]⟩, .string ⟨#[]⟩, .string ⟨#[]⟩, .slice none 0 0] 31)).cell? ⟨w.heap.size, 5, none⟩ = some (Value.string p4) := by go_simp
  have g6 : (((w.alloc (Obj.cells #[.slice A 0 c, .string p0, .string p1, .string p2, .string p3, .string p4, .string p5] 151)).alloc (Obj.cells #[.int .i64 x.f0, .bool x.f1, .int .i64 x.f2, .string x.f3, .string x.f4.f0, .string x.f4.f1, .slice (some ad) x.f5.length kc] 67)).alloc (Obj.cells #[.int .i64 0, .bool false, .int .i64 0, .string ⟨#[]⟩, .string ⟨#[]⟩, .string ⟨#[]⟩, .slice none 0 0] 31)).cell? ⟨w.heap.size, 6, none⟩ = some (Value.string p5) := by go_simp
  have e0 : (((w.alloc (Obj.cells #[.slice A 0 c, .string p0, .string p1, .string p2, .string p3, .string p4, .string p5] 151)).alloc (Obj.cells #[.int .i64 x.f0, .bool x.f1, .int .i64 x.f2, .string x.f3, .string x.f4.f0, .string x.f4.f1, .slice (some ad) x.f5.length kc] 67)).alloc (Obj.cells #[.int .i64 0, .bool false, .int .i64 0, .string ⟨#[]⟩, .string ⟨#[]⟩, .string ⟨#[]⟩, .slice none 0 0] 31)).cell? ⟨w.heap.size + 1, 0, none⟩ = some (Value.int .i64 x.f0) := by go_simp
  have e1 : (((w.alloc (Obj.cells #[.slice A 0 c, .string p0, .string p1, .string p2, .string p3, .string p4, .string p5] 151)).alloc (Obj.cells #[.int .i64 x.f0, .bool x.f1, .int .i64 x.f2, .string x.f3, .string x.f4.f0, .string x.f4.f1, .slice (some ad) x.f5.length kc] 67)).alloc (Obj.cells #[.int .i64 0, .bool false, .int .i64 0, .string ⟨#[]⟩, .string ⟨#[]⟩, .string ⟨#[]⟩, .slice none 0 0] 31)).cell? ⟨w.heap.size + 1, 1, none⟩ = some (Value.bool x.f1) := by go_simp
  have e2 : (((w.alloc (Obj.cells #[.slice A 0 c, .string p0, .string p1, .string p2, .string p3, .string p4, .string p5] 151)).alloc (Obj.cells #[.int .i64 x.f0, .bool x.f1, .int .i64 x.f2, .string x.f3, .string x.f4.f0, .string x.f4.f1, .slice (some ad) x.f5.length kc] 67)).alloc (Obj.cells #[.int .i64 0, .bool false, .int .i64 0, .string ⟨#[]⟩, .string ⟨#[]⟩, .string ⟨#[]⟩, .slice none 0 0] 31)).cell? ⟨w.heap.size + 1, 2, none⟩ = some (Value.int .i64 x.f2) := by go_simp
  have e3 : (((w.alloc (Obj.cells #[.slice A 0 c, .string p0, .string p1, .string p2, .string p3, .string p4, .string p5] 151)).alloc (Obj.cells #[.int .i64 x.f0, .bool x.f1, .int .i64 x.f2, .string x.f3, .string x.f4.f0, .string x.f4.f1, .slice (some ad) x.f5.length kc] 67)).alloc (Obj.cells #[.int .i64 0, .bool false, .int .i64 0, .string ⟨#[]⟩, .string ⟨#[]⟩, .string ⟨#[]⟩, .slice none 0 0] 31)).cell? ⟨w.heap.size + 1, 3, none⟩ = some (Value.string x.f3) := by go_simp
  have e4 : (((w.alloc (Obj.cells #[.slice A 0 c, .string p0, .string p1, .string p2, .string p3, .string p4, .string p5] 151)).alloc (Obj.cells #[.int .i64 x.f0, .bool x.f1, .int .i64 x.f2, .string x.f3, .string x.f4.f0, .string x.f4.f1, .slice (some ad) x.f5.length kc] 67)).alloc (Obj.cells #[.int .i64 0, .bool false, .int .i64 0, .string ⟨#[]⟩, .string ⟨#[]⟩, .string ⟨#[]⟩, .slice none 0 0] 31)).cell? ⟨w.heap.size + 1, 4, none⟩ = some (Value.string x.f4.f0) := by go_simp
  have e5 : (((w.alloc (Obj.cells #[.slice A 0 c, .string p0, .string p1, .string p2, .string p3, .string p4, .string p5] 151)).alloc (Obj.cells #[.int .i64 x.f0, .bool x.f1, .int .i64 x.f2, .string x.f3, .string x.f4.f0, .string x.f4.f1, .slice (some ad) x.f5.length kc] 67)).alloc (Obj.cells #[.int .i64 0, .bool false, .int .i64 0, .string ⟨#[]⟩, .string ⟨#[]⟩, .string ⟨#[]⟩, .slice none 0 0] 31)).cell? ⟨w.heap.size + 1, 5, none⟩ = some (Value.string x.f4.f1) := by go_simp
  have e6 : (((w.alloc (Obj.cells #[.slice A 0 c, .string p0, .string p1, .string p2, .string p3, .string p4, .string p5] 151)).alloc (Obj.cells #[.int .i64 x.f0, .bool x.f1, .int .i64 x.f2, .string x.f3, .string x.f4.f0, .string x.f4.f1, .slice (some ad) x.f5.length kc] 67)).alloc (Obj.cells #[.int .i64 0, .bool false, .int .i64 0, .string ⟨#[]⟩, .string ⟨#[]⟩, .string ⟨#[]⟩, .slice none 0 0] 31)).cell? ⟨w.heap.size + 1, 6, none⟩ = some (Value.slice (some ad) x.f5.length kc) := by go_simp
  have xl : Below w.heap.size w (((w.alloc (Obj.cells #[.slice A 0 c, .string p0, .string p1, .string p2, .string p3, .string p4, .string p5] 151)).alloc (Obj.cells #[.int .i64 x.f0, .bool x.f1, .int .i64 x.f2, .string x.f3, .string x.f4.f0, .string x.f4.f1, .slice (some ad) x.f5.length kc] 67)).alloc (Obj.cells #[.int .i64 0, .bool false, .int .i64 0, .string ⟨#[]⟩, .string ⟨#[]⟩, .string ⟨#[]⟩, .slice none 0 0] 31)) := by repeat (first | exact Below.refl _ _ | apply below_alloc)
  replace z0 := (xl.cell (World.block_lt_of_cell? _ _ z0)).trans z0
  replace z1 := (xl.cell (World.block_lt_of_cell? _ _ z1)).trans z1
  replace z2 := (xl.cell (World.block_lt_of_cell? _ _ z2)).trans z2
  replace z3 := (xl.cell (World.block_lt_of_cell? _ _ z3)).trans z3
  replace z4 := (xl.cell (World.block_lt_of_cell? _ _ z4)).trans z4
  replace z5 := (xl.cell (World.block_lt_of_cell? _ _ z5)).trans z5
  replace z6 := (xl.cell (World.block_lt_of_cell? _ _ z6)).trans z6
  have xb : Box (((w.alloc (Obj.cells #[.slice A 0 c, .string p0, .string p1, .string p2, .string p3, .string p4, .string p5] 151)).alloc (Obj.cells #[.int .i64 x.f0, .bool x.f1, .int .i64 x.f2, .string x.f3, .string x.f4.f0, .string x.f4.f1, .slice (some ad) x.f5.length kc] 67)).alloc (Obj.cells #[.int .i64 0, .bool false, .int .i64 0, .string ⟨#[]⟩, .string ⟨#[]⟩, .string ⟨#[]⟩, .slice none 0 0] 31)) (w.heap.size + 1 + 1) := (by repeat (first | exact blk_at _ _ _ (by simp; done) | (refine (Below.heap_alloc _ _ _ (by first | (simp; done) | (simp; omega))).trans ?_)))
  generalize (((w.alloc (Obj.cells #[.slice A 0 c, .string p0, .string p1, .string p2, .string p3, .string p4, .string p5] 151)).alloc (Obj.cells #[.int .i64 x.f0, .bool x.f1, .int .i64 x.f2, .string x.f3, .string x.f4.f0, .string x.f4.f1, .slice (some ad) x.f5.length kc] 67)).alloc (Obj.cells #[.int .i64 0, .bool false, .int .i64 0, .string ⟨#[]⟩, .string ⟨#[]⟩, .string ⟨#[]⟩, .slice none 0 0] 31)) = V at g0 g1 g2 g3 g4 g5 g6 e0 e1 e2 e3 e4 e5 e6 z0 z1 z2 z3 z4 z5 z6 xb xl ⊢
  replace g0 : V.drew.cell? ⟨w.heap.size, 0, none⟩ = some (Value.slice A 0 c) := g0
  replace g1 : V.drew.cell? ⟨w.heap.size, 1, none⟩ = some (Value.string p0) := g1
  replace g2 : V.drew.cell? ⟨w.heap.size, 2, none⟩ = some (Value.string p1) := g2
  replace g3 : V.drew.cell? ⟨w.heap.size, 3, none⟩ = some (Value.string p2) := g3
  replace g4 : V.drew.cell? ⟨w.heap.size, 4, none⟩ = some (Value.string p3) := g4
  replace g5 : V.drew.cell? ⟨w.heap.size, 5, none⟩ = some (Value.string p4) := g5
  replace g6 : V.drew.cell? ⟨w.heap.size, 6, none⟩ = some (Value.string p5) := g6
  replace e0 : V.drew.cell? ⟨w.heap.size + 1, 0, none⟩ = some (Value.int .i64 x.f0) := e0
  replace e1 : V.drew.cell? ⟨w.heap.size + 1, 1, none⟩ = some (Value.bool x.f1) := e1
  replace e2 : V.drew.cell? ⟨w.heap.size + 1, 2, none⟩ = some (Value.int .i64 x.f2) := e2
  replace e3 : V.drew.cell? ⟨w.heap.size + 1, 3, none⟩ = some (Value.string x.f3) := e3
  replace e4 : V.drew.cell? ⟨w.heap.size + 1, 4, none⟩ = some (Value.string x.f4.f0) := e4
  replace e5 : V.drew.cell? ⟨w.heap.size + 1, 5, none⟩ = some (Value.string x.f4.f1) := e5
  replace e6 : V.drew.cell? ⟨w.heap.size + 1, 6, none⟩ = some (Value.slice (some ad) x.f5.length kc) := e6
  replace z0 : V.drew.cell? ad = some (Value.int .i64 k0.f0) := z0
  replace z1 : V.drew.cell? ⟨ad.block, ad.off + 1, none⟩ = some (Value.bool k0.f1) := z1
  replace z2 : V.drew.cell? ⟨ad.block, ad.off + 2, none⟩ = some (Value.int .i64 k0.f2) := z2
  replace z3 : V.drew.cell? ⟨ad.block, ad.off + 3, none⟩ = some (Value.string k0.f3) := z3
  replace z4 : V.drew.cell? ⟨ad.block, ad.off + 4, none⟩ = some (Value.string k0.f4.f0) := z4
  replace z5 : V.drew.cell? ⟨ad.block, ad.off + 5, none⟩ = some (Value.string k0.f4.f1) := z5
  replace z6 : V.drew.cell? ⟨ad.block, ad.off + 6, none⟩ = some (Value.slice Ak0 k0.f5.length ck0) := z6
  replace xb : Box V.drew (w.heap.size + 1 + 1) := xb
  replace xl : Below w.heap.size w V.drew := below_drew1 xl
  go_region_held3 (fun W => W.cell? ⟨w.heap.size, 0, none⟩ = some (Value.slice A 0 c) ∧ W.cell? ⟨w.heap.size, 1, none⟩ = some (Value.string p0) ∧ W.cell? ⟨w.heap.size, 2, none⟩ = some (Value.string p1) ∧ W.cell? ⟨w.heap.size, 3, none⟩ = some (Value.string p2) ∧ W.cell? ⟨w.heap.size, 4, none⟩ = some (Value.string p3) ∧ W.cell? ⟨w.heap.size, 5, none⟩ = some (Value.string p4) ∧ W.cell? ⟨w.heap.size, 6, none⟩ = some (Value.string p5) ∧ W.cell? ⟨w.heap.size + 1, 0, none⟩ = some (Value.int .i64 x.f0) ∧ W.cell? ⟨w.heap.size + 1, 1, none⟩ = some (Value.bool x.f1) ∧ W.cell? ⟨w.heap.size + 1, 2, none⟩ = some (Value.int .i64 x.f2) ∧ W.cell? ⟨w.heap.size + 1, 3, none⟩ = some (Value.string x.f3) ∧ W.cell? ⟨w.heap.size + 1, 4, none⟩ = some (Value.string x.f4.f0) ∧ W.cell? ⟨w.heap.size + 1, 5, none⟩ = some (Value.string x.f4.f1) ∧ W.cell? ⟨w.heap.size + 1, 6, none⟩ = some (Value.slice (some ad) x.f5.length kc) ∧ W.cell? ad = some (Value.int .i64 k0.f0) ∧ W.cell? ⟨ad.block, ad.off + 1, none⟩ = some (Value.bool k0.f1) ∧ W.cell? ⟨ad.block, ad.off + 2, none⟩ = some (Value.int .i64 k0.f2) ∧ W.cell? ⟨ad.block, ad.off + 3, none⟩ = some (Value.string k0.f3) ∧ W.cell? ⟨ad.block, ad.off + 4, none⟩ = some (Value.string k0.f4.f0) ∧ W.cell? ⟨ad.block, ad.off + 5, none⟩ = some (Value.string k0.f4.f1) ∧ W.cell? ⟨ad.block, ad.off + 6, none⟩ = some (Value.slice Ak0 k0.f5.length ck0) ∧ Box W (w.heap.size + 1 + 1) ∧ Below w.heap.size w W)
    ((first | ((try go_split_ands); refine ⟨?_, ?_, ?_, ?_, ?_, ?_, ?_, ?_, ?_, ?_, ?_, ?_, ?_, ?_, ?_, ?_, ?_, ?_, ?_, ?_, ?_, ?_, ?_⟩ <;> first | (with_reducible assumption) | (with_reducible exact cell_after7 (by with_reducible assumption) (by omega)) | (with_reducible exact below_after7 (by with_reducible assumption) (by omega)) | (with_reducible exact Box.after7 (by with_reducible assumption) (by omega)) | (with_reducible exact (hb.cell (World.block_lt_of_cell? _ _ (by with_reducible assumption))).trans (by with_reducible assumption)) | (with_reducible exact below_step (by with_reducible assumption) hb) | (with_reducible exact Box.mono (by with_reducible assumption) hb))))
    ((go_at_call 158; refine (HA.out _ _ _ _ _ HLk0.out (Kd.C_below HCk0.out xl)).mono ?_; rintro e w' ⟨rfl, hb⟩))
  go_split_ands
  have g0 : w'.cell? ⟨w.heap.size, 0, none⟩ = some (Value.slice A 0 c) := by with_reducible assumption
  have g1 : w'.cell? ⟨w.heap.size, 1, none⟩ = some (Value.string p0) := by with_reducible assumption
  have g2 : w'.cell? ⟨w.heap.size, 2, none⟩ = some (Value.string p1) := by with_reducible assumption
  have g3 : w'.cell? ⟨w.heap.size, 3, none⟩ = some (Value.string p2) := by with_reducible assumption
  have g4 : w'.cell? ⟨w.heap.size, 4, none⟩ = some (Value.string p3) := by with_reducible assumption
  have g5 : w'.cell? ⟨w.heap.size, 5, none⟩ = some (Value.string p4) := by with_reducible assumption
  have g6 : w'.cell? ⟨w.heap.size, 6, none⟩ = some (Value.string p5) := by with_reducible assumption
  have e0 : w'.cell? ⟨w.heap.size + 1, 0, none⟩ = some (Value.int .i64 x.f0) := by with_reducible assumption
  have e1 : w'.cell? ⟨w.heap.size + 1, 1, none⟩ = some (Value.bool x.f1) := by with_reducible assumption
  have e2 : w'.cell? ⟨w.heap.size + 1, 2, none⟩ = some (Value.int .i64 x.f2) := by with_reducible assumption
  have e3 : w'.cell? ⟨w.heap.size + 1, 3, none⟩ = some (Value.string x.f3) := by with_reducible assumption
  have e4 : w'.cell? ⟨w.heap.size + 1, 4, none⟩ = some (Value.string x.f4.f0) := by with_reducible assumption
  have e5 : w'.cell? ⟨w.heap.size + 1, 5, none⟩ = some (Value.string x.f4.f1) := by with_reducible assumption
  have e6 : w'.cell? ⟨w.heap.size + 1, 6, none⟩ = some (Value.slice (some ad) x.f5.length kc) := by with_reducible assumption
  have HB1 : Aside0 (Below w.heap.size w w') := ⟨by with_reducible assumption⟩
  have HBX1 : Aside0 (Box w' (w.heap.size + 1 + 1)) := ⟨by with_reducible assumption⟩
  have hsz1 : w.heap.size + 1 + 1 < w'.heap.size := lt_of_heap HBX1.out
  obtain ⟨ad2, Ak1, ck1, e2_, y0, y1, y2, y3, y4, y5, y6, hlk1, hck1⟩ := exp_at HCC.out 1 k1 hkk1
  obtain rfl : ad = ad2 := by injection e2_
  have h1a : ((1 : Int) < (x.f5.length : Int)) = True := eq_true (by have := (List.getElem?_eq_some_iff.1 hkk1).1; omega)
  have h1n : 1 < x.f5.length := (List.getElem?_eq_some_iff.1 hkk1).1
  simp only [Nat.one_mul, Addr.add_7_] at y0 y1 y2 y3 y4 y5 y6
  have hadb0 := World.block_lt_of_cell? _ _ y0
  have hadb : ad.block < w.heap.size := hadb0
  clear hadb0
  replace y0 := (HB1.out.cell (World.block_lt_of_cell? _ _ y0)).trans y0
  replace y1 := (HB1.out.cell (World.block_lt_of_cell? _ _ y1)).trans y1
  replace y2 := (HB1.out.cell (World.block_lt_of_cell? _ _ y2)).trans y2
  replace y3 := (HB1.out.cell (World.block_lt_of_cell? _ _ y3)).trans y3
  replace y4 := (HB1.out.cell (World.block_lt_of_cell? _ _ y4)).trans y4
  replace y5 := (HB1.out.cell (World.block_lt_of_cell? _ _ y5)).trans y5
  replace y6 := (HB1.out.cell (World.block_lt_of_cell? _ _ y6)).trans y6
  have HLk1 := Aside0.mk hlk1
  have HCk1 := Aside0.mk hck1
  clear hlk1 hck1
  go_wp2_with fail
  replace g0 : w'.drew.cell? ⟨w.heap.size, 0, none⟩ = some (Value.slice A 0 c) := g0
  replace g1 : w'.drew.cell? ⟨w.heap.size, 1, none⟩ = some (Value.string p0) := g1
  replace g2 : w'.drew.cell? ⟨w.heap.size, 2, none⟩ = some (Value.string p1) := g2
  replace g3 : w'.drew.cell? ⟨w.heap.size, 3, none⟩ = some (Value.string p2) := g3
  replace g4 : w'.drew.cell? ⟨w.heap.size, 4, none⟩ = some (Value.string p3) := g4
  replace g5 : w'.drew.cell? ⟨w.heap.size, 5, none⟩ = some (Value.string p4) := g5
  replace g6 : w'.drew.cell? ⟨w.heap.size, 6, none⟩ = some (Value.string p5) := g6
  replace e0 : w'.drew.cell? ⟨w.heap.size + 1, 0, none⟩ = some (Value.int .i64 x.f0) := e0
  replace e1 : w'.drew.cell? ⟨w.heap.size + 1, 1, none⟩ = some (Value.bool x.f1) := e1
  replace e2 : w'.drew.cell? ⟨w.heap.size + 1, 2, none⟩ = some (Value.int .i64 x.f2) := e2
  replace e3 : w'.drew.cell? ⟨w.heap.size + 1, 3, none⟩ = some (Value.string x.f3) := e3
  replace e4 : w'.drew.cell? ⟨w.heap.size + 1, 4, none⟩ = some (Value.string x.f4.f0) := e4
  replace e5 : w'.drew.cell? ⟨w.heap.size + 1, 5, none⟩ = some (Value.string x.f4.f1) := e5
  replace e6 : w'.drew.cell? ⟨w.heap.size + 1, 6, none⟩ = some (Value.slice (some ad) x.f5.length kc) := e6
  replace y0 : w'.drew.cell? ⟨ad.block, ad.off + 7, none⟩ = some (Value.int .i64 k1.f0) := y0
  replace y1 : w'.drew.cell? ⟨ad.block, ad.off + 7 + 1, none⟩ = some (Value.bool k1.f1) := y1
  replace y2 : w'.drew.cell? ⟨ad.block, ad.off + 7 + 2, none⟩ = some (Value.int .i64 k1.f2) := y2
  replace y3 : w'.drew.cell? ⟨ad.block, ad.off + 7 + 3, none⟩ = some (Value.string k1.f3) := y3
  replace y4 : w'.drew.cell? ⟨ad.block, ad.off + 7 + 4, none⟩ = some (Value.string k1.f4.f0) := y4
  replace y5 : w'.drew.cell? ⟨ad.block, ad.off + 7 + 5, none⟩ = some (Value.string k1.f4.f1) := y5
  replace y6 : w'.drew.cell? ⟨ad.block, ad.off + 7 + 6, none⟩ = some (Value.slice Ak1 k1.f5.length ck1) := y6
  have xb : Box w'.drew (w.heap.size + 1 + 1) := HBX1.out
  have xl : Below w.heap.size w w'.drew := below_drew1 HB1.out
  have hsz : w.heap.size + 1 + 1 < w'.drew.heap.size := hsz1
  go_region_held3 (fun W => W.cell? ⟨w.heap.size, 0, none⟩ = some (Value.slice A 0 c) ∧ W.cell? ⟨w.heap.size, 1, none⟩ = some (Value.string p0) ∧ W.cell? ⟨w.heap.size, 2, none⟩ = some (Value.string p1) ∧ W.cell? ⟨w.heap.size, 3, none⟩ = some (Value.string p2) ∧ W.cell? ⟨w.heap.size, 4, none⟩ = some (Value.string p3) ∧ W.cell? ⟨w.heap.size, 5, none⟩ = some (Value.string p4) ∧ W.cell? ⟨w.heap.size, 6, none⟩ = some (Value.string p5) ∧ W.cell? ⟨w.heap.size + 1, 0, none⟩ = some (Value.int .i64 x.f0) ∧ W.cell? ⟨w.heap.size + 1, 1, none⟩ = some (Value.bool x.f1) ∧ W.cell? ⟨w.heap.size + 1, 2, none⟩ = some (Value.int .i64 x.f2) ∧ W.cell? ⟨w.heap.size + 1, 3, none⟩ = some (Value.string x.f3) ∧ W.cell? ⟨w.heap.size + 1, 4, none⟩ = some (Value.string x.f4.f0) ∧ W.cell? ⟨w.heap.size + 1, 5, none⟩ = some (Value.string x.f4.f1) ∧ W.cell? ⟨w.heap.size + 1, 6, none⟩ = some (Value.slice (some ad) x.f5.length kc) ∧ W.cell? ⟨ad.block, ad.off + 7, none⟩ = some (Value.int .i64 k1.f0) ∧ W.cell? ⟨ad.block, ad.off + 7 + 1, none⟩ = some (Value.bool k1.f1) ∧ W.cell? ⟨ad.block, ad.off + 7 + 2, none⟩ = some (Value.int .i64 k1.f2) ∧ W.cell? ⟨ad.block, ad.off + 7 + 3, none⟩ = some (Value.string k1.f3) ∧ W.cell? ⟨ad.block, ad.off + 7 + 4, none⟩ = some (Value.string k1.f4.f0) ∧ W.cell? ⟨ad.block, ad.off + 7 + 5, none⟩ = some (Value.string k1.f4.f1) ∧ W.cell? ⟨ad.block, ad.off + 7 + 6, none⟩ = some (Value.slice Ak1 k1.f5.length ck1) ∧ Box W (w.heap.size + 1 + 1) ∧ Below w.heap.size w W)
    ((first | ((try go_split_ands); refine ⟨?_, ?_, ?_, ?_, ?_, ?_, ?_, ?_, ?_, ?_, ?_, ?_, ?_, ?_, ?_, ?_, ?_, ?_, ?_, ?_, ?_, ?_, ?_⟩ <;> first | (with_reducible assumption) | (with_reducible exact cell_after7 (by with_reducible assumption) (by omega)) | (with_reducible exact below_after7 (by with_reducible assumption) (by omega)) | (with_reducible exact Box.after7 (by with_reducible assumption) (by omega)) | (with_reducible exact (hb.cell (World.block_lt_of_cell? _ _ (by with_reducible assumption))).trans (by with_reducible assumption)) | (with_reducible exact below_step (by with_reducible assumption) hb) | (with_reducible exact Box.mono (by with_reducible assumption) hb))))
    ((go_at_call 158; refine (HE.out _ _ _ _ _ HLk1.out (Kd.C_below HCk1.out xl)).mono ?_; rintro e w2 ⟨rfl, hb⟩))
  go_split_ands
  have HB2 : Aside0 (Below w.heap.size w w2) := ⟨by with_reducible assumption⟩
  have HBX2 : Aside0 (Box w2 (w.heap.size + 1 + 1)) := ⟨by with_reducible assumption⟩
  go_wp2_with (go_at_call 160; refine (hk _).mono ?_; rintro e w3 ⟨rfl, hb⟩; have HB3 : Aside0 (Below w.heap.size w w3) := ⟨below_step HB2.out hb⟩; have HBX3 := Aside0.mk (Box.mono HBX2.out hb); have q0 := HBX3.out.c0; have q1 := HBX3.out.c1; have q2 := HBX3.out.c2; have q3 := HBX3.out.c3; have q4 := HBX3.out.c4; have q5 := HBX3.out.c5; have q6 := HBX3.out.c6; have q7 := HBX3.out.fr; clear hb)
  (try simp only [Exit.inBlock, Exit.then])
  have hd := HBX3.out.done (.int .i64 0) (.bool false) (.int .i64 0) (.string ⟨#[]⟩) (.string ⟨#[]⟩) (.string ⟨#[]⟩) (.slice none 0 0)
  have hbl := HB3.out.trans (below_cells (B := w.heap.size) (w.heap.size + 1 + 1) (by omega) [.int .i64 0, .bool false, .int .i64 0, .string ⟨#[]⟩, .string ⟨#[]⟩, .string ⟨#[]⟩, .slice none 0 0] 0 w3)
  simp only [World.setCells] at hd hbl
  refine bodyPost_ret (results_row_tmp rfl _ _ (w.heap.size + 1 + 1) 31 _ (0, 0) _ rfl hd Try.underlying31 rfl (by kernel_rfl)) rfl ?_
  exact ⟨_, rfl, Kd.V_nil _ _ _ _ _, hbl⟩
set_option maxRecDepth 100000 in
set_option maxHeartbeats 16000000 in
theorem choice_second_or (p0 p1 p2 p3 p4 p5 : ByteArray) (x k0 k1 : S67) (hkk0 : x.f5[0]? = some k0) (hkk1 : x.f5[1]? = some k1) (hop : x.f0 = 24) (h : AskOk p0 p1 p2 p3 p4 p5 k0 false 0) (t2 : Bool) (er : Int) (her : er ≠ 0) (h2 : AskOk p0 p1 p2 p3 p4 p5 k1 t2 er) (A : Option Addr) (c : Nat) (B : Option Addr) (kc : Nat) (w : World) (hl : x.f5.length ≤ kc) (hC : k67.C w B x.f5.length x.f5) :
    Calls Try.prog 137 #[.agg #[.slice A 0 c, .string p0, .string p1, .string p2, .string p3, .string p4, .string p5], .agg #[.int .i64 x.f0, .bool x.f1, .int .i64 x.f2, .string x.f3, .string x.f4.f0, .string x.f4.f1, .slice B x.f5.length kc]] w (Gives w zV er) := by
  have HA := Aside0.mk h
  have HE := Aside0.mk h2
  have hk := told_err (.iface 226 (.bool t2)) er her
  clear h h2
  clear her
  have hop1 : (x.f0 == 24) = true := beq_iff_eq.mpr hop
  have hop2 : (x.f0 == 25) = false := beq_eq_false_iff_ne.mpr (by omega)
  clear hop
  obtain ⟨ad, Ak0, ck0, rfl, z0, z1, z2, z3, z4, z5, z6, hlk0, hck0⟩ := exp_at hC 0 k0 hkk0
  have h0a : ((0 : Int) < (x.f5.length : Int)) = True := eq_true (by have := (List.getElem?_eq_some_iff.1 hkk0).1; omega)
  have h0n : 0 < x.f5.length := (List.getElem?_eq_some_iff.1 hkk0).1
  simp only [Nat.zero_mul, Addr.add_zero_] at z0 z1 z2 z3 z4 z5 z6
  have HLk0 := Aside0.mk hlk0
  have HCk0 := Aside0.mk hck0
  have HCC := Aside0.mk hC
  clear hlk0 hck0 hC
  go_enter Try.func137, Try.ntmps137
  go_wp2_with fail
  have g0 : (((w.alloc (Obj.cells #[.slice A 0 c, .string p0, .string p1, .string p2, .string p3, .string p4, .string p5] 151)).alloc (Obj.cells #[.int .i64 x.f0, .bool x.f1, .int .i64 x.f2, .string x.f3, .string x.f4.f0, .string x.f4.f1, .slice (some ad) x.f5.length kc] 67)).alloc (Obj.cells #[.int .i64 0, .bool false, .int .i64 0, .string ⟨#[]⟩, .string ⟨#[]⟩, .string ⟨#[]⟩, .slice none 0 0] 31)).cell? ⟨w.heap.size, 0, none⟩ = some (Value.slice A 0 c) := by go_simp
  have g1 : (((w.alloc (Obj.cells #[.slice A 0 c, .string p0, .string p1, .string p2, .string p3, .string p4, .string p5] 151)).alloc (Obj.cells #[.int .i64 x.f0, .bool x.f1, .int .i64 x.f2, .string x.f3, .string x.f4.f0, .string x.f4.f1, .slice (some ad) x.f5.length kc] 67)).alloc (Obj.cells #[.int .i64 0, .bool false, .int .i64 0, .string ⟨#[]⟩, .string ⟨#[]⟩, .string ⟨#[]⟩, .slice none 0 0] 31)).cell? ⟨w.heap.size, 1, none⟩ = some (Value.string p0) := by go_simp
  have g2 : (((w.alloc (Obj.cells #[.slice A 0 c, .string p0, .string p1, .string p2, .string p3, .string p4, .string p5] 151)).alloc (Obj.cells #[.int .i64 x.f0, .bool x.f1, .int .i64 x.f2, .string x.f3, .string x.f4.f0, .string x.f4.f1, .slice (some ad) x.f5.length kc] 67)).alloc (Obj.cells #[.int .i64 0, .bool false, .int .i64 0, .string ⟨#[]⟩, .string ⟨#[]⟩, .string ⟨#[]⟩, .slice none 0 0] 31)).cell? ⟨w.heap.size, 2, none⟩ = some (Value.string p1) := by go_simp
  have g3 : (((w.alloc (Obj.cells #[.slice A 0 c, .string p0, .string p1, .string p2, .string p3, .string p4, .string p5] 151)).alloc (Obj.cells #[.int .i64 x.f0, .bool x.f1, .int .i64 x.f2, .string x.f3, .string x.f4.f0, .string x.f4.f1, .slice (some ad) x.f5.length kc] 67)).alloc (Obj.cells #[.int .i64 0, .bool false, .int .i64 0, .string ⟨#[]⟩, .string ⟨#[]⟩, .string ⟨#[]⟩, .slice none 0 0] 31)).cell? ⟨w.heap.size, 3, none⟩ = some (Value.string p2) := by go_simp
  have g4 : (((w.alloc (Obj.cells #[.slice A 0 c, .string p0, .string p1, .string p2, .string p3, .string p4, .string p5] 151)).alloc (Obj.cells #[.int .i64 x.f0, .bool x.f1, .int .i64 x.f2, .string x.f3, .string x.f4.f0, .string x.f4.f1, .slice (some ad) x.f5.length kc] 67)).alloc (Obj.cells #[.int .i64 0, .bool false, .int .i64 0, .string ⟨#[]⟩, .string ⟨#[]⟩, .string ⟨#[]⟩, .slice none 0 0] 31)).cell? ⟨w.heap.size, 4, none⟩ = some (Value.string p3) := by go_simp
  have g5 : (((w.alloc (Obj.cells #[.slice A 0 c, .string p0, .string p1, .string p2, .string p3, .string p4, .string p5] 151)).alloc (Obj.cells #[.int .i64 x.f0, .bool x.f1, .int .i64 x.f2, .string x.f3, .string x.f4.f0, .string x.f4.f1, .slice (some ad) x.f5.length kc] 67)).alloc (Obj.cells #[.int .i64 0, .bool false, .int .i64 0, .string ⟨#[]⟩, .string ⟨#[]⟩, .string ⟨#[]⟩, .slice none 0 0] 31)).cell? ⟨w.heap.size, 5, none⟩ = some (Value.string p4) := by go_simp
  have g6 : (((w.alloc (Obj.cells #[.slice A 0 c, .string p0, .string p1, .string p2, .string p3, .string p4, .string p5] 151)).alloc (Obj.cells #[.int .i64 x.f0, .bool x.f1, .int .i64 x.f2, .string x.f3, .string x.f4.f0, .string x.f4.f1, .slice (some ad) x.f5.length kc] 67)).alloc (Obj.cells #[.int .i64 0, .bool false, .int .i64 0, .string ⟨#[]⟩, .string ⟨#[]⟩, .string ⟨#[]⟩, .slice none 0 0] 31)).cell? ⟨w.heap.size, 6, none⟩ = some (Value.string p5) := by go_simp
  have e0 : (((w.alloc (Obj.cells #[.slice A 0 c, .string p0, .string p1, .string p2, .string p3, .string p4, .string p5] 151)).alloc (Obj.cells #[.int .i64 x.f0, .bool x.f1, .int .i64 x.f2, .string x.f3, .string x.f4.f0, .string x.f4.f1, .slice (some ad) x.f5.length kc] 67)).alloc (Obj.cells #[.int .i64 0, .bool false, .int .i64 0, .string ⟨#[]⟩, .string ⟨#[]⟩, .string ⟨#[]⟩, .slice none 0 0] 31)).cell? ⟨w.heap.size + 1, 0, none⟩ = some (Value.int .i64 x.f0) := by go_simp
  have e1 : (((w.alloc (Obj.cells #[.slice A 0 c, .string p0, .string p1, .string p2, .string p3, .string p4, .string p5] 151)).alloc (Obj.cells #[.int .i64 x.f0, .bool x.f1, .int .i64 x.f2, .string x.f3, .string x.f4.f0, .string x.f4.f1, .slice (some ad) x.f5.length kc] 67)).alloc (Obj.cells #[.int .i64 0, .bool false, .int .i64 0, .string ⟨#[]⟩, .string ⟨#[]⟩, .string ⟨#[]⟩, .slice none 0 0] 31)).cell? ⟨w.heap.size + 1, 1, none⟩ = some (Value.bool x.f1) := by go_simp
  have e2 : (((w.alloc (Obj.cells #[.slice A 0 c, .string p0, .string p1, .string p2, .string p3, .string p4, .string p5] 151)).alloc (Obj.cells #[.int .i64 x.f0, .bool x.f1, .int .i64 x.f2, .string x.f3, .string x.f4.f0, .string x.f4.f1, .slice (some ad) x.f5.length kc] 67)).alloc (Obj.cells #[.int .i64 0, .bool false, .int .i64 0, .string ⟨#[]⟩, .string ⟨#[]⟩, .string ⟨#[]⟩, .slice none 0 0] 31)).cell? ⟨w.heap.size + 1, 2, none⟩ = some (Value.int .i64 x.f2) := by go_simp
  have e3 : (((w.alloc (Obj.cells #[.slice A 0 c, .string p0, .string p1, .string p2, .string p3, .string p4, .string p5] 151)).alloc (Obj.cells #[.int .i64 x.f0, .bool x.f1, .int .i64 x.f2, .string x.f3, .string x.f4.f0, .string x.f4.f1, .slice (some ad) x.f5.length kc] 67)).alloc (Obj.cells #[.int .i64 0, .bool false, .int .i64 0, .string ⟨#[]⟩, .string ⟨#[]⟩, .string ⟨#[]⟩, .slice none 0 0] 31)).cell? ⟨w.heap.size + 1, 3, none⟩ = some (Value.string x.f3) := by go_simp
  have e4 : (((w.alloc (Obj.cells #[.slice A 0 c, .string p0, .string p1, .string p2, .string p3, .string p4, .string p5] 151)).alloc (Obj.cells #[.int .i64 x.f0, .bool x.f1, .int .i64 x.f2, .string x.f3, .string x.f4.f0, .string x.f4.f1, .slice (some ad) x.f5.length kc] 67)).alloc (Obj.cells #[.int .i64 0, .bool false, .int .i64 0, .string ⟨#[]⟩, .string ⟨#[]⟩, .string ⟨#[]⟩, .slice none 0 0] 31)).cell? ⟨w.heap.size + 1, 4, none⟩ = some (Value.string x.f4.f0) := by go_simp
  have e5 : (((w.alloc (Obj.cells #[.slice A 0 c, .string p0, .string p1, .string p2, .string p3, .string p4, .string p5] 151)).alloc (Obj.cells #[.int .i64 x.f0, .bool x.f1, .int .i64 x.f2, .string x.f3, .string x.f4.f0, .string x.f4.f1, .slice (some ad) x.f5.length kc] 67)).alloc (Obj.cells #[.int .i64 0, .bool false, .int .i64 0, .string ⟨#[]⟩, .string ⟨#[]⟩, .string ⟨#[]⟩, .slice none 0 0] 31)).cell? ⟨w.heap.size + 1, 5, none⟩ = some (Value.string x.f4.f1) := by go_simp
  have e6 : (((w.alloc (Obj.cells #[.slice A 0 c, .string p0, .string p1, .string p2, .string p3, .string p4, .string p5] 151)).alloc (Obj.cells #[.int .i64 x.f0, .bool x.f1, .int .i64 x.f2, .string x.f3, .string x.f4.f0, .string x.f4.f1, .slice (some ad) x.f5.length kc] 67)).alloc (Obj.cells #[.int .i64 0, .bool false, .int .i64 0, .string ⟨#[]⟩, .string ⟨#[]⟩, .string ⟨#[]⟩, .slice none 0 0] 31)).cell? ⟨w.heap.size + 1, 6, none⟩ = some (Value.slice (some ad) x.f5.length kc) := by go_simp
  have xl : Below w.heap.size w (((w.alloc (Obj.cells #[.slice A 0 c, .string p0, .string p1, .string p2, .string p3, .string p4, .string p5] 151)).alloc (Obj.cells #[.int .i64 x.f0, .bool x.f1, .int .i64 x.f2, .string x.f3, .string x.f4.f0, .string x.f4.f1, .slice (some ad) x.f5.length kc] 67)).alloc (Obj.cells #[.int .i64 0, .bool false, .int .i64 0, .string ⟨#[]⟩, .string ⟨#[]⟩, .string ⟨#[]⟩, .slice none 0 0] 31)) := by repeat (first | exact Below.refl _ _ | apply below_alloc)
  replace z0 := (xl.cell (World.block_lt_of_cell? _ _ z0)).trans z0
  replace z1 := (xl.cell (World.block_lt_of_cell? _ _ z1)).trans z1
  replace z2 := (xl.cell (World.block_lt_of_cell? _ _ z2)).trans z2
  replace z3 := (xl.cell (World.block_lt_of_cell? _ _ z3)).trans z3
  replace z4 := (xl.cell (World.block_lt_of_cell? _ _ z4)).trans z4
  replace z5 := (xl.cell (World.block_lt_of_cell? _ _ z5)).trans z5
  replace z6 := (xl.cell (World.block_lt_of_cell? _ _ z6)).trans z6
  have xb : Box (((w.alloc (Obj.cells #[.slice A 0 c, .string p0, .string p1, .string p2, .string p3, .string p4, .string p5] 151)).alloc (Obj.cells #[.int .i64 x.f0, .bool x.f1, .int .i64 x.f2, .string x.f3, .string x.f4.f0, .string x.f4.f1, .slice (some ad) x.f5.length kc] 67)).alloc (Obj.cells #[.int .i64 0, .bool false, .int .i64 0, .string ⟨#[]⟩, .string ⟨#[]⟩, .string ⟨#[]⟩, .slice none 0 0] 31)) (w.heap.size + 1 + 1) := (by repeat (first | exact blk_at _ _ _ (by simp; done) | (refine (Below.heap_alloc _ _ _ (by first | (simp; done) | (simp; omega))).trans ?_)))
  generalize (((w.alloc (Obj.cells #[.slice A 0 c, .string p0, .string p1, .string p2, .string p3, .string p4, .string p5] 151)).alloc (Obj.cells #[.int .i64 x.f0, .bool x.f1, .int .i64 x.f2, .string x.f3, .string x.f4.f0, .string x.f4.f1, .slice (some ad) x.f5.length kc] 67)).alloc (Obj.cells #[.int .i64 0, .bool false, .int .i64 0, .string ⟨#[]⟩, .string ⟨#[]⟩, .string ⟨#[]⟩, .slice none 0 0] 31)) = V at g0 g1 g2 g3 g4 g5 g6 e0 e1 e2 e3 e4 e5 e6 z0 z1 z2 z3 z4 z5 z6 xb xl ⊢
  replace g0 : V.drew.cell? ⟨w.heap.size, 0, none⟩ = some (Value.slice A 0 c) := g0
  replace g1 : V.drew.cell? ⟨w.heap.size, 1, none⟩ = some (Value.string p0) := g1
  replace g2 : V.drew.cell? ⟨w.heap.size, 2, none⟩ = some (Value.string p1) := g2
  replace g3 : V.drew.cell? ⟨w.heap.size, 3, none⟩ = some (Value.string p2) := g3
  replace g4 : V.drew.cell? ⟨w.heap.size, 4, none⟩ = some (Value.string p3) := g4
  replace g5 : V.drew.cell? ⟨w.heap.size, 5, none⟩ = some (Value.string p4) := g5
  replace g6 : V.drew.cell? ⟨w.heap.size, 6, none⟩ = some (Value.string p5) := g6
  replace e0 : V.drew.cell? ⟨w.heap.size + 1, 0, none⟩ = some (Value.int .i64 x.f0) := e0
  replace e1 : V.drew.cell? ⟨w.heap.size + 1, 1, none⟩ = some (Value.bool x.f1) := e1
  replace e2 : V.drew.cell? ⟨w.heap.size + 1, 2, none⟩ = some (Value.int .i64 x.f2) := e2
  replace e3 : V.drew.cell? ⟨w.heap.size + 1, 3, none⟩ = some (Value.string x.f3) := e3
  replace e4 : V.drew.cell? ⟨w.heap.size + 1, 4, none⟩ = some (Value.string x.f4.f0) := e4
  replace e5 : V.drew.cell? ⟨w.heap.size + 1, 5, none⟩ = some (Value.string x.f4.f1) := e5
  replace e6 : V.drew.cell? ⟨w.heap.size + 1, 6, none⟩ = some (Value.slice (some ad) x.f5.length kc) := e6
  replace z0 : V.drew.cell? ad = some (Value.int .i64 k0.f0) := z0
  replace z1 : V.drew.cell? ⟨ad.block, ad.off + 1, none⟩ = some (Value.bool k0.f1) := z1
  replace z2 : V.drew.cell? ⟨ad.block, ad.off + 2, none⟩ = some (Value.int .i64 k0.f2) := z2
  replace z3 : V.drew.cell? ⟨ad.block, ad.off + 3, none⟩ = some (Value.string k0.f3) := z3
  replace z4 : V.drew.cell? ⟨ad.block, ad.off + 4, none⟩ = some (Value.string k0.f4.f0) := z4
  replace z5 : V.drew.cell? ⟨ad.block, ad.off + 5, none⟩ = some (Value.string k0.f4.f1) := z5
  replace z6 : V.drew.cell? ⟨ad.block, ad.off + 6, none⟩ = some (Value.slice Ak0 k0.f5.length ck0) := z6
  replace xb : Box V.drew (w.heap.size + 1 + 1) := xb
  replace xl : Below w.heap.size w V.drew := below_drew1 xl
  go_region_held3 (fun W => W.cell? ⟨w.heap.size, 0, none⟩ = some (Value.slice A 0 c) ∧ W.cell? ⟨w.heap.size, 1, none⟩ = some (Value.string p0) ∧ W.cell? ⟨w.heap.size, 2, none⟩ = some (Value.string p1) ∧ W.cell? ⟨w.heap.size, 3, none⟩ = some (Value.string p2) ∧ W.cell? ⟨w.heap.size, 4, none⟩ = some (Value.string p3) ∧ W.cell? ⟨w.heap.size, 5, none⟩ = some (Value.string p4) ∧ W.cell? ⟨w.heap.size, 6, none⟩ = some (Value.string p5) ∧ W.cell? ⟨w.heap.size + 1, 0, none⟩ = some (Value.int .i64 x.f0) ∧ W.cell? ⟨w.heap.size + 1, 1, none⟩ = some (Value.bool x.f1) ∧ W.cell? ⟨w.heap.size + 1, 2, none⟩ = some (Value.int .i64 x.f2) ∧ W.cell? ⟨w.heap.size + 1, 3, none⟩ = some (Value.string x.f3) ∧ W.cell? ⟨w.heap.size + 1, 4, none⟩ = some (Value.string x.f4.f0) ∧ W.cell? ⟨w.heap.size + 1, 5, none⟩ = some (Value.string x.f4.f1) ∧ W.cell? ⟨w.heap.size + 1, 6, none⟩ = some (Value.slice (some ad) x.f5.length kc) ∧ W.cell? ad = some (Value.int .i64 k0.f0) ∧ W.cell? ⟨ad.block, ad.off + 1, none⟩ = some (Value.bool k0.f1) ∧ W.cell? ⟨ad.block, ad.off + 2, none⟩ = some (Value.int .i64 k0.f2) ∧ W.cell? ⟨ad.block, ad.off + 3, none⟩ = some (Value.string k0.f3) ∧ W.cell? ⟨ad.block, ad.off + 4, none⟩ = some (Value.string k0.f4.f0) ∧ W.cell? ⟨ad.block, ad.off + 5, none⟩ = some (Value.string k0.f4.f1) ∧ W.cell? ⟨ad.block, ad.off + 6, none⟩ = some (Value.slice Ak0 k0.f5.length ck0) ∧ Box W (w.heap.size + 1 + 1) ∧ Below w.heap.size w W)
    ((first | ((try go_split_ands); refine ⟨?_, ?_, ?_, ?_, ?_, ?_, ?_, ?_, ?_, ?_, ?_, ?_, ?_, ?_, ?_, ?_, ?_, ?_, ?_, ?_, ?_, ?_, ?_⟩ <;> first | (with_reducible assumption) | (with_reducible exact cell_after7 (by with_reducible assumption) (by omega)) | (with_reducible exact below_after7 (by with_reducible assumption) (by omega)) | (with_reducible exact Box.after7 (by with_reducible assumption) (by omega)) | (with_reducible exact (hb.cell (World.block_lt_of_cell? _ _ (by with_reducible assumption))).trans (by with_reducible assumption)) | (with_reducible exact below_step (by with_reducible assumption) hb) | (with_reducible exact Box.mono (by with_reducible assumption) hb))))
    ((go_at_call 158; refine (HA.out _ _ _ _ _ HLk0.out (Kd.C_below HCk0.out xl)).mono ?_; rintro e w' ⟨rfl, hb⟩))
  go_split_ands
  have g0 : w'.cell? ⟨w.heap.size, 0, none⟩ = some (Value.slice A 0 c) := by with_reducible assumption
  have g1 : w'.cell? ⟨w.heap.size, 1, none⟩ = some (Value.string p0) := by with_reducible assumption
  have g2 : w'.cell? ⟨w.heap.size, 2, none⟩ = some (Value.string p1) := by with_reducible assumption
  have g3 : w'.cell? ⟨w.heap.size, 3, none⟩ = some (Value.string p2) := by with_reducible assumption
  have g4 : w'.cell? ⟨w.heap.size, 4, none⟩ = some (Value.string p3) := by with_reducible assumption
  have g5 : w'.cell? ⟨w.heap.size, 5, none⟩ = some (Value.string p4) := by with_reducible assumption
  have g6 : w'.cell? ⟨w.heap.size, 6, none⟩ = some (Value.string p5) := by with_reducible assumption
  have e0 : w'.cell? ⟨w.heap.size + 1, 0, none⟩ = some (Value.int .i64 x.f0) := by with_reducible assumption
  have e1 : w'.cell? ⟨w.heap.size + 1, 1, none⟩ = some (Value.bool x.f1) := by with_reducible assumption
  have e2 : w'.cell? ⟨w.heap.size + 1, 2, none⟩ = some (Value.int .i64 x.f2) := by with_reducible assumption
  have e3 : w'.cell? ⟨w.heap.size + 1, 3, none⟩ = some (Value.string x.f3) := by with_reducible assumption
  have e4 : w'.cell? ⟨w.heap.size + 1, 4, none⟩ = some (Value.string x.f4.f0) := by with_reducible assumption
  have e5 : w'.cell? ⟨w.heap.size + 1, 5, none⟩ = some (Value.string x.f4.f1) := by with_reducible assumption
  have e6 : w'.cell? ⟨w.heap.size + 1, 6, none⟩ = some (Value.slice (some ad) x.f5.length kc) := by with_reducible assumption
  have HB1 : Aside0 (Below w.heap.size w w') := ⟨by with_reducible assumption⟩
  have HBX1 : Aside0 (Box w' (w.heap.size + 1 + 1)) := ⟨by with_reducible assumption⟩
  have hsz1 : w.heap.size + 1 + 1 < w'.heap.size := lt_of_heap HBX1.out
  obtain ⟨ad2, Ak1, ck1, e2_, y0, y1, y2, y3, y4, y5, y6, hlk1, hck1⟩ := exp_at HCC.out 1 k1 hkk1
  obtain rfl : ad = ad2 := by injection e2_
  have h1a : ((1 : Int) < (x.f5.length : Int)) = True := eq_true (by have := (List.getElem?_eq_some_iff.1 hkk1).1; omega)
  have h1n : 1 < x.f5.length := (List.getElem?_eq_some_iff.1 hkk1).1
  simp only [Nat.one_mul, Addr.add_7_] at y0 y1 y2 y3 y4 y5 y6
  have hadb0 := World.block_lt_of_cell? _ _ y0
  have hadb : ad.block < w.heap.size := hadb0
  clear hadb0
  replace y0 := (HB1.out.cell (World.block_lt_of_cell? _ _ y0)).trans y0
  replace y1 := (HB1.out.cell (World.block_lt_of_cell? _ _ y1)).trans y1
  replace y2 := (HB1.out.cell (World.block_lt_of_cell? _ _ y2)).trans y2
  replace y3 := (HB1.out.cell (World.block_lt_of_cell? _ _ y3)).trans y3
  replace y4 := (HB1.out.cell (World.block_lt_of_cell? _ _ y4)).trans y4
  replace y5 := (HB1.out.cell (World.block_lt_of_cell? _ _ y5)).trans y5
  replace y6 := (HB1.out.cell (World.block_lt_of_cell? _ _ y6)).trans y6
  have HLk1 := Aside0.mk hlk1
  have HCk1 := Aside0.mk hck1
  clear hlk1 hck1
  go_wp2_with fail
  replace g0 : w'.drew.cell? ⟨w.heap.size, 0, none⟩ = some (Value.slice A 0 c) := g0
  replace g1 : w'.drew.cell? ⟨w.heap.size, 1, none⟩ = some (Value.string p0) := g1
  replace g2 : w'.drew.cell? ⟨w.heap.size, 2, none⟩ = some (Value.string p1) := g2
  replace g3 : w'.drew.cell? ⟨w.heap.size, 3, none⟩ = some (Value.string p2) := g3
  replace g4 : w'.drew.cell? ⟨w.heap.size, 4, none⟩ = some (Value.string p3) := g4
  replace g5 : w'.drew.cell? ⟨w.heap.size, 5, none⟩ = some (Value.string p4) := g5
  replace g6 : w'.drew.cell? ⟨w.heap.size, 6, none⟩ = some (Value.string p5) := g6
  replace e0 : w'.drew.cell? ⟨w.heap.size + 1, 0, none⟩ = some (Value.int .i64 x.f0) := e0
  replace e1 : w'.drew.cell? ⟨w.heap.size + 1, 1, none⟩ = some (Value.bool x.f1) := e1
  replace e2 : w'.drew.cell? ⟨w.heap.size + 1, 2, none⟩ = some (Value.int .i64 x.f2) := e2
  replace e3 : w'.drew.cell? ⟨w.heap.size + 1, 3, none⟩ = some (Value.string x.f3) := e3
  replace e4 : w'.drew.cell? ⟨w.heap.size + 1, 4, none⟩ = some (Value.string x.f4.f0) := e4
  replace e5 : w'.drew.cell? ⟨w.heap.size + 1, 5, none⟩ = some (Value.string x.f4.f1) := e5
  replace e6 : w'.drew.cell? ⟨w.heap.size + 1, 6, none⟩ = some (Value.slice (some ad) x.f5.length kc) := e6
  replace y0 : w'.drew.cell? ⟨ad.block, ad.off + 7, none⟩ = some (Value.int .i64 k1.f0) := y0
  replace y1 : w'.drew.cell? ⟨ad.block, ad.off + 7 + 1, none⟩ = some (Value.bool k1.f1) := y1
  replace y2 : w'.drew.cell? ⟨ad.block, ad.off + 7 + 2, none⟩ = some (Value.int .i64 k1.f2) := y2
  replace y3 : w'.drew.cell? ⟨ad.block, ad.off + 7 + 3, none⟩ = some (Value.string k1.f3) := y3
  replace y4 : w'.drew.cell? ⟨ad.block, ad.off + 7 + 4, none⟩ = some (Value.string k1.f4.f0) := y4
  replace y5 : w'.drew.cell? ⟨ad.block, ad.off + 7 + 5, none⟩ = some (Value.string k1.f4.f1) := y5
  replace y6 : w'.drew.cell? ⟨ad.block, ad.off + 7 + 6, none⟩ = some (Value.slice Ak1 k1.f5.length ck1) := y6
  have xb : Box w'.drew (w.heap.size + 1 + 1) := HBX1.out
  have xl : Below w.heap.size w w'.drew := below_drew1 HB1.out
  have hsz : w.heap.size + 1 + 1 < w'.drew.heap.size := hsz1
  go_region_held3 (fun W => W.cell? ⟨w.heap.size, 0, none⟩ = some (Value.slice A 0 c) ∧ W.cell? ⟨w.heap.size, 1, none⟩ = some (Value.string p0) ∧ W.cell? ⟨w.heap.size, 2, none⟩ = some (Value.string p1) ∧ W.cell? ⟨w.heap.size, 3, none⟩ = some (Value.string p2) ∧ W.cell? ⟨w.heap.size, 4, none⟩ = some (Value.string p3) ∧ W.cell? ⟨w.heap.size, 5, none⟩ = some (Value.string p4) ∧ W.cell? ⟨w.heap.size, 6, none⟩ = some (Value.string p5) ∧ W.cell? ⟨w.heap.size + 1, 0, none⟩ = some (Value.int .i64 x.f0) ∧ W.cell? ⟨w.heap.size + 1, 1, none⟩ = some (Value.bool x.f1) ∧ W.cell? ⟨w.heap.size + 1, 2, none⟩ = some (Value.int .i64 x.f2) ∧ W.cell? ⟨w.heap.size + 1, 3, none⟩ = some (Value.string x.f3) ∧ W.cell? ⟨w.heap.size + 1, 4, none⟩ = some (Value.string x.f4.f0) ∧ W.cell? ⟨w.heap.size + 1, 5, none⟩ = some (Value.string x.f4.f1) ∧ W.cell? ⟨w.heap.size + 1, 6, none⟩ = some (Value.slice (some ad) x.f5.length kc) ∧ W.cell? ⟨ad.block, ad.off + 7, none⟩ = some (Value.int .i64 k1.f0) ∧ W.cell? ⟨ad.block, ad.off + 7 + 1, none⟩ = some (Value.bool k1.f1) ∧ W.cell? ⟨ad.block, ad.off + 7 + 2, none⟩ = some (Value.int .i64 k1.f2) ∧ W.cell? ⟨ad.block, ad.off + 7 + 3, none⟩ = some (Value.string k1.f3) ∧ W.cell? ⟨ad.block, ad.off + 7 + 4, none⟩ = some (Value.string k1.f4.f0) ∧ W.cell? ⟨ad.block, ad.off + 7 + 5, none⟩ = some (Value.string k1.f4.f1) ∧ W.cell? ⟨ad.block, ad.off + 7 + 6, none⟩ = some (Value.slice Ak1 k1.f5.length ck1) ∧ Box W (w.heap.size + 1 + 1) ∧ Below w.heap.size w W)
    ((first | ((try go_split_ands); refine ⟨?_, ?_, ?_, ?_, ?_, ?_, ?_, ?_, ?_, ?_, ?_, ?_, ?_, ?_, ?_, ?_, ?_, ?_, ?_, ?_, ?_, ?_, ?_⟩ <;> first | (with_reducible assumption) | (with_reducible exact cell_after7 (by with_reducible assumption) (by omega)) | (with_reducible exact below_after7 (by with_reducible assumption) (by omega)) | (with_reducible exact Box.after7 (by with_reducible assumption) (by omega)) | (with_reducible exact (hb.cell (World.block_lt_of_cell? _ _ (by with_reducible assumption))).trans (by with_reducible assumption)) | (with_reducible exact below_step (by with_reducible assumption) hb) | (with_reducible exact Box.mono (by with_reducible assumption) hb))))
    ((go_at_call 158; refine (HE.out _ _ _ _ _ HLk1.out (Kd.C_below HCk1.out xl)).mono ?_; rintro e w2 ⟨rfl, hb⟩))
  go_split_ands
  have HB2 : Aside0 (Below w.heap.size w w2) := ⟨by with_reducible assumption⟩
  have HBX2 : Aside0 (Box w2 (w.heap.size + 1 + 1)) := ⟨by with_reducible assumption⟩
  go_wp2_with (go_at_call 160; refine (hk _).mono ?_; rintro e w3 ⟨rfl, hb⟩; have HB3 : Aside0 (Below w.heap.size w w3) := ⟨below_step HB2.out hb⟩; have HBX3 := Aside0.mk (Box.mono HBX2.out hb); have q0 := HBX3.out.c0; have q1 := HBX3.out.c1; have q2 := HBX3.out.c2; have q3 := HBX3.out.c3; have q4 := HBX3.out.c4; have q5 := HBX3.out.c5; have q6 := HBX3.out.c6; have q7 := HBX3.out.fr; clear hb)
  (try simp only [Exit.inBlock, Exit.then])
  have hd := HBX3.out.done (.int .i64 0) (.bool false) (.int .i64 0) (.string ⟨#[]⟩) (.string ⟨#[]⟩) (.string ⟨#[]⟩) (.slice none 0 0)
  have hbl := HB3.out.trans (below_cells (B := w.heap.size) (w.heap.size + 1 + 1) (by omega) [.int .i64 0, .bool false, .int .i64 0, .string ⟨#[]⟩, .string ⟨#[]⟩, .string ⟨#[]⟩, .slice none 0 0] 0 w3)
  simp only [World.setCells] at hd hbl
  refine bodyPost_ret (results_row_tmp rfl _ _ (w.heap.size + 1 + 1) 31 _ (0, 0) _ rfl hd Try.underlying31 rfl (by kernel_rfl)) rfl ?_
  exact ⟨_, rfl, Kd.V_nil _ _ _ _ _, hbl⟩
end Go.Proofs.Ytfmghijmcgkpiaa.GE
