import Derived.Test.YtelibndkkokadaaGB0
import Derived.Test.YtelibndkkokadaaEV1
import Derived.Test.YtelibndkkokadaaSqz
import Derived.Deep.RegionWith
import Derived.Deep.CutRange
namespace Go.Proofs.Ytelibndkkokadaa.EV
open Go.RowKit Go.Proofs.YtelibndkkokadaaW.PrintWords Go.Proofs.YtelibndkkokadaaW.PrintLast Go.Proofs.Ytelibndkkokadaa.HandV Go.Proofs.YtelibndkkokadaaW.PrintMore
open Go.Proofs.Ytelibndkkokadaa.GB
attribute [local go_sem] max2_int min2_int max_two min_two max_three min_three max_four min_four   -- for this text's walks alone
set_option linter.unusedVariables false
set_option linter.unusedSimpArgs false
-- IMPORT .EV1
-- IMPORT .Sqz
-- IMPORT Derived.Deep.RegionWith
-- IMPORT Derived.Deep.CutRange
/-- A value without a row. -/
structure Fl where
  k : Int
  b : Bool
  m : Int
  s : ByteArray
  t : ByteArray
  i : ByteArray
abbrev zO : Obj := .cells #[.int .i64 0, .bool false, .int .i64 0, .string ⟨#[]⟩, .string ⟨#[]⟩, .string ⟨#[]⟩, .slice none 0 0] 55 (0, 0)
theorem bn2 (w : World) (o1 o2 : Obj) : ((w.alloc o1).alloc o2).heap[w.heap.size + 1]? = some o2 := by
  have h := blk_new (w.alloc o1) o2
  have hs : (w.alloc o1).heap.size = w.heap.size + 1 := by simp
  rw [hs] at h
  exact h
theorem bn3 (w : World) (o1 o2 o3 : Obj) : (((w.alloc o1).alloc o2).alloc o3).heap[w.heap.size + 2]? = some o3 := by
  have h := bn2 (w.alloc o1) o2 o3
  have hs : (w.alloc o1).heap.size = w.heap.size + 1 := by simp
  rw [hs] at h
  exact h
theorem cells7 {W : World} {g : Nat} {t : TypeId} {a0 a1 a2 a3 a4 a5 a6 : Value} (h : W.heap[g]? = some (.cells #[a0, a1, a2, a3, a4, a5, a6] t (0, 0))) : W.cell? ⟨g, 0, none⟩ = some a0 ∧ W.cell? ⟨g, 1, none⟩ = some a1 ∧ W.cell? ⟨g, 2, none⟩ = some a2 ∧ W.cell? ⟨g, 3, none⟩ = some a3 ∧ W.cell? ⟨g, 4, none⟩ = some a4 ∧ W.cell? ⟨g, 5, none⟩ = some a5 ∧ W.cell? ⟨g, 6, none⟩ = some a6 :=
  ⟨(blk_cell h 0).trans rfl, (blk_cell h 1).trans rfl, (blk_cell h 2).trans rfl, (blk_cell h 3).trans rfl, (blk_cell h 4).trans rfl, (blk_cell h 5).trans rfl, (blk_cell h 6).trans rfl⟩
theorem froz7 {W : World} {g : Nat} {t : TypeId} {cs : Array Value} (h : W.heap[g]? = some (.cells cs t (0, 0))) : W.frozen? ⟨g, 0, none⟩ = false ∧ W.frozen? ⟨g, 1, none⟩ = false ∧ W.frozen? ⟨g, 2, none⟩ = false ∧ W.frozen? ⟨g, 3, none⟩ = false ∧ W.frozen? ⟨g, 4, none⟩ = false ∧ W.frozen? ⟨g, 5, none⟩ = false ∧ W.frozen? ⟨g, 6, none⟩ = false :=
  ⟨blk_frozen h 0, blk_frozen h 1, blk_frozen h 2, blk_frozen h 3, blk_frozen h 4, blk_frozen h 5, blk_frozen h 6⟩
abbrev set7 (W : World) (g : Nat) (v0 v1 v2 v3 v4 v5 v6 : Value) : World := ((((((W.setCell ⟨g, 0, none⟩ v0).setCell ⟨g, 1, none⟩ v1).setCell ⟨g, 2, none⟩ v2).setCell ⟨g, 3, none⟩ v3).setCell ⟨g, 4, none⟩ v4).setCell ⟨g, 5, none⟩ v5).setCell ⟨g, 6, none⟩ v6
theorem set7_blk {W : World} {g : Nat} {t : TypeId} {a0 a1 a2 a3 a4 a5 a6 : Value} (h : W.heap[g]? = some (.cells #[a0, a1, a2, a3, a4, a5, a6] t (0, 0))) (v0 v1 v2 v3 v4 v5 v6 : Value) : (set7 W g v0 v1 v2 v3 v4 v5 v6).heap[g]? = some (.cells #[v0, v1, v2, v3, v4, v5, v6] t (0, 0)) := by
  replace h := blk_put (cs := #[a0, a1, a2, a3, a4, a5, a6]) (cs' := #[v0, a1, a2, a3, a4, a5, a6]) h 0 v0 rfl
  replace h := blk_put (cs := #[v0, a1, a2, a3, a4, a5, a6]) (cs' := #[v0, v1, a2, a3, a4, a5, a6]) h 1 v1 rfl
  replace h := blk_put (cs := #[v0, v1, a2, a3, a4, a5, a6]) (cs' := #[v0, v1, v2, a3, a4, a5, a6]) h 2 v2 rfl
  replace h := blk_put (cs := #[v0, v1, v2, a3, a4, a5, a6]) (cs' := #[v0, v1, v2, v3, a4, a5, a6]) h 3 v3 rfl
  replace h := blk_put (cs := #[v0, v1, v2, v3, a4, a5, a6]) (cs' := #[v0, v1, v2, v3, v4, a5, a6]) h 4 v4 rfl
  replace h := blk_put (cs := #[v0, v1, v2, v3, v4, a5, a6]) (cs' := #[v0, v1, v2, v3, v4, v5, a6]) h 5 v5 rfl
  replace h := blk_put (cs := #[v0, v1, v2, v3, v4, v5, a6]) (cs' := #[v0, v1, v2, v3, v4, v5, v6]) h 6 v6 rfl
  exact h
theorem set7_far {W : World} {g b : Nat} {t : TypeId} {cs : Array Value} (h : W.heap[b]? = some (.cells cs t (0, 0))) (hne : b ≠ g) (v0 v1 v2 v3 v4 v5 v6 : Value) : (set7 W g v0 v1 v2 v3 v4 v5 v6).heap[b]? = some (.cells cs t (0, 0)) :=
  blk_far (blk_far (blk_far (blk_far (blk_far (blk_far (blk_far h (p := ⟨g, 0, none⟩) hne _) (p := ⟨g, 1, none⟩) hne _) (p := ⟨g, 2, none⟩) hne _) (p := ⟨g, 3, none⟩) hne _) (p := ⟨g, 4, none⟩) hne _) (p := ⟨g, 5, none⟩) hne _) (p := ⟨g, 6, none⟩) hne _
theorem set7_below {B : Nat} {w W : World} {g : Nat} (h : Below B w W) (hg : B ≤ g) (v0 v1 v2 v3 v4 v5 v6 : Value) : Below B w (set7 W g v0 v1 v2 v3 v4 v5 v6) :=
  ((((((h.setCell (p := ⟨g, 0, none⟩) hg _).setCell (p := ⟨g, 1, none⟩) hg _).setCell (p := ⟨g, 2, none⟩) hg _).setCell (p := ⟨g, 3, none⟩) hg _).setCell (p := ⟨g, 4, none⟩) hg _).setCell (p := ⟨g, 5, none⟩) hg _).setCell (p := ⟨g, 6, none⟩) hg _
/-- A flat value and an error came back. -/
def GivF (W : World) (r : Fl) (er : Int) (e : Ending) (w' : World) : Prop := e = .returned (.tuple #[.agg #[.int .i64 r.k, .bool r.b, .int .i64 r.m, .string r.s, .string r.t, .string r.i, .slice none 0 0], .int .i64 er]) ∧ Below W.heap.size W w'
/-- What a tree comes to in a world and in all later ones. -/
def Says (wv x : Value) (r : Fl) (er : Int) (W : World) : Prop := ∀ W', Below W.heap.size W W' → Calls Try.prog 71 #[wv, x] W' (GivF W' r er)
theorem Says.step {wv x : Value} {r : Fl} {er : Int} {W W' : World} (h : Says wv x r er W) (hb : Below W.heap.size W W') : Says wv x r er W' := fun W2 h2 => h W2 (below_step hb h2)
/-- What an operation on two flat values comes to. -/
def DSays (wv : Value) (op : Int) (a b r : Fl) (er : Int) (W : World) : Prop := ∀ W', Below W.heap.size W W' → Calls Try.prog 96 #[wv, .int .i64 op, .agg #[.int .i64 a.k, .bool a.b, .int .i64 a.m, .string a.s, .string a.t, .string a.i, .slice none 0 0], .agg #[.int .i64 b.k, .bool b.b, .int .i64 b.m, .string b.s, .string b.t, .string b.i, .slice none 0 0]] W' (GivF W' r er)
theorem DSays.step {wv : Value} {op : Int} {a b r : Fl} {er : Int} {W W' : World} (h : DSays wv op a b r er W) (hb : Below W.heap.size W W') : DSays wv op a b r er W' := fun W2 h2 => h W2 (below_step hb h2)
set_option maxRecDepth 100000 in
set_option maxHeartbeats 16000000 in
theorem leaf_bool (A : Option Addr) (n c : Nat) (p0 p1 p2 p3 p4 p5 : ByteArray) (b : Bool) (m : Int) (s t i : ByteArray) (K : Value) (w : World) : Calls Try.prog 92 #[.agg #[.slice A n c, .string p0, .string p1, .string p2, .string p3, .string p4, .string p5], .agg #[.int .i64 1, .bool b, .int .i64 m, .string s, .string t, .string i, K]] w fun e w' => e = .returned (.agg #[.int .i64 1, .bool b, .int .i64 0, .string ⟨#[]⟩, .string ⟨#[]⟩, .string ⟨#[]⟩, .slice none 0 0]) ∧ Below w.heap.size w w' := by
  go_enter Try.func92, Try.ntmps92
  go_wp2
  (try simp only [Exit.inBlock, Exit.then])
  refine bodyPost_ret (results_cell_row rfl _ _ (w.heap.size + 2) 55 _ (0, 0) _ rfl (bn3 _ _ _ _) Try.underlying55 rfl (by kernel_rfl)) rfl ?_
  exact ⟨rfl, below_alloc (below_alloc (below_alloc (Below.refl _ _) _) _) _⟩
set_option maxRecDepth 100000 in
set_option maxHeartbeats 16000000 in
theorem leaf_long (A : Option Addr) (n c : Nat) (p0 p1 p2 p3 p4 p5 : ByteArray) (b : Bool) (m : Int) (s t i : ByteArray) (K : Value) (w : World) : Calls Try.prog 92 #[.agg #[.slice A n c, .string p0, .string p1, .string p2, .string p3, .string p4, .string p5], .agg #[.int .i64 2, .bool b, .int .i64 m, .string s, .string t, .string i, K]] w fun e w' => e = .returned (.agg #[.int .i64 2, .bool false, .int .i64 m, .string ⟨#[]⟩, .string ⟨#[]⟩, .string ⟨#[]⟩, .slice none 0 0]) ∧ Below w.heap.size w w' := by
  go_enter Try.func92, Try.ntmps92
  go_wp2
  (try simp only [Exit.inBlock, Exit.then])
  refine bodyPost_ret (results_cell_row rfl _ _ (w.heap.size + 2) 55 _ (0, 0) _ rfl (bn3 _ _ _ _) Try.underlying55 rfl (by kernel_rfl)) rfl ?_
  exact ⟨rfl, below_alloc (below_alloc (below_alloc (Below.refl _ _) _) _) _⟩
set_option maxRecDepth 100000 in
set_option maxHeartbeats 16000000 in
theorem leaf_uid (A : Option Addr) (n c : Nat) (p0 p1 p2 p3 p4 p5 : ByteArray) (b : Bool) (m : Int) (s t i : ByteArray) (K : Value) (w : World) : Calls Try.prog 92 #[.agg #[.slice A n c, .string p0, .string p1, .string p2, .string p3, .string p4, .string p5], .agg #[.int .i64 4, .bool b, .int .i64 m, .string s, .string t, .string i, K]] w fun e w' => e = .returned (.agg #[.int .i64 4, .bool false, .int .i64 0, .string ⟨#[]⟩, .string t, .string i, .slice none 0 0]) ∧ Below w.heap.size w w' := by
  go_enter Try.func92, Try.ntmps92
  go_wp2
  (try simp only [Exit.inBlock, Exit.then])
  refine bodyPost_ret (results_cell_row rfl _ _ (w.heap.size + 2) 55 _ (0, 0) _ rfl (bn3 _ _ _ _) Try.underlying55 rfl (by kernel_rfl)) rfl ?_
  exact ⟨rfl, below_alloc (below_alloc (below_alloc (Below.refl _ _) _) _) _⟩
set_option maxRecDepth 100000 in
set_option maxHeartbeats 16000000 in
theorem leaf_principal (A : Option Addr) (n c : Nat) (p0 p1 p2 p3 p4 p5 : ByteArray) (b : Bool) (m : Int) (t i : ByteArray) (K : Value) (w : World) : Calls Try.prog 92 #[.agg #[.slice A n c, .string p0, .string p1, .string p2, .string p3, .string p4, .string p5], .agg #[.int .i64 5, .bool b, .int .i64 m, .string ⟨#[112, 114, 105, 110, 99, 105, 112, 97, 108]⟩, .string t, .string i, K]] w fun e w' => e = .returned (.agg #[.int .i64 4, .bool false, .int .i64 0, .string ⟨#[]⟩, .string p0, .string p1, .slice none 0 0]) ∧ Below w.heap.size w w' := by
  go_enter Try.func92, Try.ntmps92
  go_wp2
  (try simp only [Exit.inBlock, Exit.then])
  refine bodyPost_ret (results_cell_row rfl _ _ (w.heap.size + 2) 55 _ (0, 0) _ rfl (bn3 _ _ _ _) Try.underlying55 rfl (by kernel_rfl)) rfl ?_
  exact ⟨rfl, below_alloc (below_alloc (below_alloc (Below.refl _ _) _) _) _⟩
set_option maxRecDepth 100000 in
set_option maxHeartbeats 16000000 in
theorem leaf_action (A : Option Addr) (n c : Nat) (p0 p1 p2 p3 p4 p5 : ByteArray) (b : Bool) (m : Int) (t i : ByteArray) (K : Value) (w : World) : Calls Try.prog 92 #[.agg #[.slice A n c, .string p0, .string p1, .string p2, .string p3, .string p4, .string p5], .agg #[.int .i64 5, .bool b, .int .i64 m, .string ⟨#[97, 99, 116, 105, 111, 110]⟩, .string t, .string i, K]] w fun e w' => e = .returned (.agg #[.int .i64 4, .bool false, .int .i64 0, .string ⟨#[]⟩, .string p2, .string p3, .slice none 0 0]) ∧ Below w.heap.size w w' := by
  go_enter Try.func92, Try.ntmps92
  go_wp2
  (try simp only [Exit.inBlock, Exit.then])
  refine bodyPost_ret (results_cell_row rfl _ _ (w.heap.size + 2) 55 _ (0, 0) _ rfl (bn3 _ _ _ _) Try.underlying55 rfl (by kernel_rfl)) rfl ?_
  exact ⟨rfl, below_alloc (below_alloc (below_alloc (Below.refl _ _) _) _) _⟩
set_option maxRecDepth 100000 in
set_option maxHeartbeats 16000000 in
theorem leaf_resource (A : Option Addr) (n c : Nat) (p0 p1 p2 p3 p4 p5 : ByteArray) (b : Bool) (m : Int) (t i : ByteArray) (K : Value) (w : World) : Calls Try.prog 92 #[.agg #[.slice A n c, .string p0, .string p1, .string p2, .string p3, .string p4, .string p5], .agg #[.int .i64 5, .bool b, .int .i64 m, .string ⟨#[114, 101, 115, 111, 117, 114, 99, 101]⟩, .string t, .string i, K]] w fun e w' => e = .returned (.agg #[.int .i64 4, .bool false, .int .i64 0, .string ⟨#[]⟩, .string p4, .string p5, .slice none 0 0]) ∧ Below w.heap.size w w' := by
  go_enter Try.func92, Try.ntmps92
  go_wp2
  (try simp only [Exit.inBlock, Exit.then])
  refine bodyPost_ret (results_cell_row rfl _ _ (w.heap.size + 2) 55 _ (0, 0) _ rfl (bn3 _ _ _ _) Try.underlying55 rfl (by kernel_rfl)) rfl ?_
  exact ⟨rfl, below_alloc (below_alloc (below_alloc (Below.refl _ _) _) _) _⟩
/-- The boxes of a call of expr. -/
structure XB (w : World) (wc ec : Array Value) (W : World) : Prop where
  b0 : W.heap[w.heap.size]? = some (.cells wc 108 (0, 0))
  b1 : W.heap[w.heap.size + 1]? = some (.cells ec 72 (0, 0))
  b2 : W.heap[w.heap.size + 2]? = some zO
  be : Below w.heap.size w W
theorem XB.step {w W W' : World} {wc ec : Array Value} (h : XB w wc ec W) (hb : Below W.heap.size W W') : XB w wc ec W' := ⟨blk_below h.b0 hb, blk_below h.b1 hb, blk_below h.b2 hb, below_step h.be hb⟩
theorem XB.new (w : World) (wc ec : Array Value) : XB w wc ec (((w.alloc (.cells wc 108 (0, 0))).alloc (.cells ec 72 (0, 0))).alloc zO) :=
  ⟨blk_alloc (blk_alloc (blk_new _ _) _) _, blk_alloc (bn2 _ _ _) _, bn3 _ _ _ _, below_alloc (below_alloc (below_alloc (Below.refl _ _) _) _) _⟩
set_option maxRecDepth 100000 in
set_option maxHeartbeats 16000000 in
theorem expr_leaf (A : Option Addr) (n c : Nat) (p0 p1 p2 p3 p4 p5 : ByteArray) (o : Int) (b : Bool) (m : Int) (s t i : ByteArray) (K : Value) (r : Fl) (ho : o < 6) (hL : ∀ W, Calls Try.prog 92 #[.agg #[.slice A n c, .string p0, .string p1, .string p2, .string p3, .string p4, .string p5], .agg #[.int .i64 o, .bool b, .int .i64 m, .string s, .string t, .string i, K]] W fun e w' => e = .returned (.agg #[.int .i64 r.k, .bool r.b, .int .i64 r.m, .string r.s, .string r.t, .string r.i, .slice none 0 0]) ∧ Below W.heap.size W w') (W0 : World) : Says (.agg #[.slice A n c, .string p0, .string p1, .string p2, .string p3, .string p4, .string p5]) (.agg #[.int .i64 o, .bool b, .int .i64 m, .string s, .string t, .string i, K]) r 0 W0 := by
  intro w _
  have h1 : decide (o < 6) = true := decide_eq_true ho
  have HL := Aside0.mk hL
  have HX := Aside0.mk (XB.new w #[.slice A n c, .string p0, .string p1, .string p2, .string p3, .string p4, .string p5] #[.int .i64 o, .bool b, .int .i64 m, .string s, .string t, .string i, K])
  clear hL ho
  unfold GivF
  go_enter Try.func71, Try.ntmps71
  go_wp2_with (go_at_call 92; refine (HL.out _).mono ?_; rintro e w1 ⟨rfl, hb⟩; have HX1 := Aside0.mk (HX.out.step hb); clear hb; obtain ⟨q0, q1, q2, q3, q4, q5, q6⟩ := cells7 HX1.out.b2; obtain ⟨f0, f1, f2, f3, f4, f5, f6⟩ := froz7 HX1.out.b2)
  (try simp only [Exit.inBlock, Exit.then])
  refine bodyPost_ret (results_row_tmp rfl _ _ (w.heap.size + 2) 55 _ (0, 0) _ rfl (set7_blk HX1.out.b2 _ _ _ _ _ _ _) Try.underlying55 rfl (by kernel_rfl)) rfl ?_
  exact ⟨rfl, set7_below HX1.out.be (by omega) _ _ _ _ _ _ _⟩
end Go.Proofs.Ytelibndkkokadaa.EV
