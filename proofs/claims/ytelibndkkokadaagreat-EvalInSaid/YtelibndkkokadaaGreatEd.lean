import Derived.Test.YtelibndkkokadaaGreatGB0
import Derived.Test.YtelibndkkokadaaGreatEb
import Derived.Test.YtelibndkkokadaaGreatEa
import Derived.Test.YtelibndkkokadaaGreatGB1
import Derived.Laws.StructEq
import Derived.Test.YtelibndkkokadaaGreatEc
namespace Go.Proofs.YtelibndkkokadaaGreat.GT
open Go.RowKit Go.Proofs.YtelibndkkokadaaGreatW.PrintWords Go.Proofs.YtelibndkkokadaaGreatW.PrintLast Go.Proofs.YtelibndkkokadaaGreat.HandV Go.Proofs.YtelibndkkokadaaGreatW.PrintMore
open Go.Proofs.YtelibndkkokadaaGreat.GB
attribute [local go_sem] max2_int min2_int max_two min_two max_three min_three max_four min_four   -- for this text's walks alone
set_option linter.unusedVariables false
set_option linter.unusedSimpArgs false
-- IMPORT .Eb
-- IMPORT .Ea
-- IMPORT .GB1
-- IMPORT Derived.Laws.StructEq
-- IMPORT .Ec
/-- Entity k of a row: its uid's cells. -/
theorem ent_at {w : World} {A : Option Addr} {n : Nat} {xs : List S32} (h : Kd.C k32 w A n xs) (k : Nat) (x : S32) (hx : xs[k]? = some x) : ∃ ad A2 c2 A3 c3, A = some ad ∧ w.cell? (ad.add (k * 4)) = some (.string x.f0.f0) ∧ w.cell? ⟨(ad.add (k * 4)).block, (ad.add (k * 4)).off + 1, none⟩ = some (.string x.f0.f1) ∧ w.cell? ⟨(ad.add (k * 4)).block, (ad.add (k * 4)).off + 2, none⟩ = some (.slice A2 x.f1.length c2) ∧ w.cell? ⟨(ad.add (k * 4)).block, (ad.add (k * 4)).off + 3, none⟩ = some (.slice A3 x.f2.length c3) ∧ x.f1.length ≤ c2 ∧ k28.C w A2 x.f1.length x.f1 ∧ x.f2.length ≤ c3 ∧ k67.C w A3 x.f2.length x.f2 := by
  have hlt : k < xs.length := (List.getElem?_eq_some_iff.1 hx).1
  have hr : rd_T32 xs (k : Int) = x := by unfold rd_T32; rw [Int.toNat_natCast, List.getD_eq_getElem?_getD, hx]; rfl
  have hn := Kd.C_len h
  have h1 := at_T32 h (k : Int) (by omega) (by omega)
  rw [hr, Int.toNat_natCast] at h1
  obtain ⟨ad, A2, c2, A3, c3, e, g⟩ := h1
  exact ⟨ad, A2, c2, A3, c3, e, g⟩
set_option maxRecDepth 100000 in
set_option maxHeartbeats 8000000 in
theorem at_closure (xs : List S32) (A : Option Addr) (c : Nat) (u0 u1 : ByteArray) (h : Nat) (x : S32) (hx : xs[h]? = some x) (bl bu : Nat) (w : World) (hC : k32.C w A xs.length xs) (hbl : w.cell? ⟨bl, 0, none⟩ = some (.slice A xs.length c)) (hu0 : w.cell? ⟨bu, 0, none⟩ = some (.string u0)) (hu1 : w.cell? ⟨bu, 1, none⟩ = some (.string u1)) :
    Calls Tryz.prog 88 #[.int .i64 (h : Int), .pointer (some ⟨bl, 0, none⟩), .pointer (some ⟨bu, 0, none⟩)] w fun e w' => e = .returned (.bool (!decide (cmpU x.f0.f0 x.f0.f1 u0 u1 < 0))) ∧ Below w.heap.size w w' := by
  obtain ⟨ad, A2, c2, A3, c3, rfl, z0, z1, _⟩ := ent_at hC h x hx
  have hlt := (List.getElem?_eq_some_iff.1 hx).1
  have p0_ : (0 ≤ (h : Int)) = True := eq_true (by omega)
  have p1_ : ((h : Int) < (xs.length : Int)) = True := eq_true (by omega)
  have hcl := fun W => lessUid_any x.f0.f0 x.f0.f1 u0 u1 W
  generalize (decide (cmpU x.f0.f0 x.f0.f1 u0 u1 < 0)) = rr at hcl ⊢
  clear hC hx
  go_enter Tryz.func88, Tryz.ntmps88
  go_wp2_with (fail)
  go_region_with ((go_at_call 89; refine (hcl _).mono ?_; rintro e w1 ⟨rfl, hb⟩; have HB1 : Aside0 (Below w.heap.size w w1) := ⟨((Below.refl w.heap.size w).drew).trans hb⟩; clear hb))
  all_goals
    go_wp2
    go_ret
    exact ⟨rfl, HB1.out⟩
set_option maxRecDepth 100000 in
set_option maxHeartbeats 4000000 in
theorem search_at (n : Nat) (hn : n ≤ 1000) (p : Nat → Bool) (bo bv : Nat) (w : World)
    (hf : ∀ W, Below w.heap.size w W → ∀ h : Nat, h < n → Calls Tryz.prog 88 #[.int .i64 (h : Int), .pointer (some ⟨bo, 0, none⟩), .pointer (some ⟨bv, 0, none⟩)] W fun e W' => e = .returned (.bool (p h)) ∧ Below W.heap.size W W') :
    Calls Tryz.prog 63 #[.int .i64 (n : Int), .func (.func 88) #[] #[.pointer (some ⟨bo, 0, none⟩), .pointer (some ⟨bv, 0, none⟩)]] w fun e w' => e = .returned (.int .i64 ((searchF p n 0 n : Nat) : Int)) ∧ Below w.heap.size w w' := by
  have HB := Aside0.mk (Below.refl w.heap.size w)
  obtain ⟨r, hr⟩ : ∃ r, searchF p n 0 n = r := ⟨_, rfl⟩
  rw [hr]
  go_enter Tryz.func63, Tryz.ntmps63
  go_wp2
  go_loopw [5, 6] (fun v5 v6 wr => ∃ a b k : Nat, v5 = .int .i64 (a : Int) ∧ v6 = .int .i64 (b : Int) ∧ a ≤ b ∧ b ≤ n ∧ b ≤ a + k ∧ Aside0 (searchF p k a b = r) ∧ Aside0 (Below w.heap.size w wr)) (fun v5 v6 _ => match v5, v6 with | .int _ x, .int _ y => (y - x).toNat | _, _ => 0)
  case atStart => exact ⟨0, n, n, rfl, rfl, Nat.zero_le _, Nat.le_refl _, by omega, ⟨hr⟩, HB⟩
  case round =>
    clear hr
    obtain ⟨a, b, k, rfl, rfl, h1, h2, h3, HA, HB⟩ := hrel
    by_cases hab : a < b
    · have hab0 : decide ((a : Int) < (b : Int)) = true := decide_eq_true (by omega)
      obtain ⟨k, rfl⟩ : ∃ m, k = m + 1 := ⟨k - 1, by omega⟩
      have ha := HA.out
      clear HA
      rw [searchF, if_pos hab] at ha
      have hh : (a + b) / 2 < n := by omega
      obtain ⟨h, hh0⟩ : ∃ h, (a + b) / 2 = h := ⟨_, rfl⟩
      have hv : (((a : Int) + (b : Int)) / 2) = (h : Int) := by omega
      rw [hh0] at ha hh
      have hc := fun W hW => hf W hW h hh
      cases hp : p h with
      | true =>
        rw [hp, if_pos rfl] at ha
        rw [hp] at hc
        have HA := Aside0.mk ha
        clear ha
        go_wp2_with (go_at_call 88; refine (hc _ HB.out).mono ?_; rintro e w' ⟨rfl, hb⟩; have n1_ := Aside0.mk (below_step HB.out hb); clear HB; have HB := n1_; clear n1_ hb)
        go_roundw
        case rel => exact ⟨a, h, k, rfl, rfl, by omega, by omega, by omega, HA, HB⟩
        case measure => simp; omega
      | false =>
        rw [hp, if_neg (by decide)] at ha
        rw [hp] at hc
        have HA := Aside0.mk ha
        clear ha
        go_wp2_with (go_at_call 88; refine (hc _ HB.out).mono ?_; rintro e w' ⟨rfl, hb⟩; have n1_ := Aside0.mk (below_step HB.out hb); clear HB; have HB := n1_; clear n1_ hb)
        go_roundw
        case rel => exact ⟨h + 1, b, k, by first | rfl | (simp; done), rfl, by omega, by omega, by omega, HA, HB⟩
        case measure => simp; omega
    · have hab0 : decide ((a : Int) < (b : Int)) = false := decide_eq_false (by omega)
      have ha := HA.out
      clear HA
      have hra : a = r := by
        cases k with
        | zero => exact ha
        | succ k => rw [searchF, if_neg hab] at ha; exact ha
      subst hra
      go_wp2
      go_ret
      exact ⟨rfl, HB.out⟩
theorem eq28run (W : World) (a b c d : ByteArray) : (binOp .eql 28 (.agg #[.string a, .string b]) (.agg #[.string c, .string d])).run Tryz.prog W = .ok (.bool (a.toList == c.toList && b.toList == d.toList)) W := by
  simp only [binOp]
  simp [Op.equal, Op.maxDepth, eqA28 9998 W a c b d]
/-- Does entity h not stand ahead of the uid? -/
def atP (l : List S32) (u0 u1 : ByteArray) (h : Nat) : Bool := match l[h]? with | some x => !decide (cmpU x.f0.f0 x.f0.f1 u0 u1 < 0) | none => true
/-- Where an entity stands, or would. -/
def atI (l : List S32) (u0 u1 : ByteArray) : Nat := searchF (atP l u0 u1) l.length 0 l.length
def atB (l : List S32) (u0 u1 : ByteArray) : Bool := match l[atI l u0 u1]? with | some x => (x.f0.f0.toList == u0.toList && x.f0.f1.toList == u1.toList) | none => false
theorem searchF_le (p : Nat → Bool) : ∀ (k a b n : Nat), a ≤ n → b ≤ n → searchF p k a b ≤ n
  | 0, a, b, n, h, _ => h
  | k + 1, a, b, n, ha, hb => by
    unfold searchF
    split
    · split
      · exact searchF_le p k _ _ n ha (by omega)
      · exact searchF_le p k _ _ n (by omega) hb
    · exact ha
theorem atI_le (l : List S32) (u0 u1 : ByteArray) : atI l u0 u1 ≤ l.length := searchF_le _ _ _ _ _ (Nat.zero_le _) (Nat.le_refl _)
set_option maxRecDepth 100000 in
set_option maxHeartbeats 8000000 in
theorem at_calls (l : List S32) (hm : l.length ≤ 1000) (u0 u1 : ByteArray) (A : Option Addr) (c : Nat) (w : World) (hl : l.length ≤ c) (hC : k32.C w A l.length l) :
    Calls Tryz.prog 82 #[.slice A l.length c, .agg #[.string u0, .string u1]] w fun e w' => e = .returned (.tuple #[.int .i64 (atI l u0 u1 : Nat), .bool (atB l u0 u1)]) ∧ Below w.heap.size w w' := by
  have hs := fun W (hW : Below w.heap.size w W) (bl bu : Nat) (h1 : W.cell? ⟨bl, 0, none⟩ = some (.slice A l.length c)) (h2 : W.cell? ⟨bu, 0, none⟩ = some (.string u0)) (h3 : W.cell? ⟨bu, 1, none⟩ = some (.string u1)) => search_at l.length hm (atP l u0 u1) bl bu W (fun W2 hW2 h hh => by
    obtain ⟨x, hx⟩ : ∃ x, l[h]? = some x := ⟨_, List.getElem?_eq_getElem hh⟩
    have hp : atP l u0 u1 h = !decide (cmpU x.f0.f0 x.f0.f1 u0 u1 < 0) := by unfold atP; rw [hx]
    rw [hp]
    exact at_closure l A c u0 u1 h x hx bl bu W2 (Kd.C_below hC (below_step hW hW2)) ((hW2.cell (World.block_lt_of_cell? _ _ h1)).trans h1) ((hW2.cell (World.block_lt_of_cell? _ _ h2)).trans h2) ((hW2.cell (World.block_lt_of_cell? _ _ h3)).trans h3))
  have HSR := Aside0.mk hs
  have HC := Aside0.mk hC
  have hle := atI_le l u0 u1
  have hu28 := Tryz.underlying28
  have hatB : atB l u0 u1 = (match l[atI l u0 u1]? with | some x => (x.f0.f0.toList == u0.toList && x.f0.f1.toList == u1.toList) | none => false) := rfl
  have hfold : searchF (atP l u0 u1) l.length 0 l.length = atI l u0 u1 := rfl
  rw [hfold] at hs
  have HSR := Aside0.mk hs
  generalize atI l u0 u1 = i at hle hatB HSR ⊢
  generalize atB l u0 u1 = b at hatB ⊢
  clear hs hC hfold
  by_cases hi : i < l.length
  · obtain ⟨x, hx⟩ : ∃ x, l[i]? = some x := ⟨_, List.getElem?_eq_getElem hi⟩
    rw [hx] at hatB
    dsimp only at hatB
    obtain ⟨ad, A2, c2, A3, c3, rfl, z0, z1, _⟩ := ent_at HC.out i x hx
    have hb1 := World.block_lt_of_cell? _ _ z0
    have p0_ : (0 ≤ (i : Int)) = True := eq_true (by omega)
    have p1_ : ((i : Int) < (l.length : Int)) = True := eq_true (by omega)
    have p2_ : decide ((i : Int) < (l.length : Int)) = true := decide_eq_true (by omega)
    have HZ0 := Aside0.mk z0
    have HZ1 := Aside0.mk z1
    clear hx z0 z1
    have heq := fun W => eq28run W x.f0.f0 x.f0.f1 u0 u1
    rw [← hatB] at heq
    clear hatB
    go_enter Tryz.func82, Tryz.ntmps82
    go_wp2_with (go_at_call 63; refine (HSR.out _ (by repeat (first | exact Below.refl _ _ | apply below_alloc)) _ _ (by go_simp) (by go_simp) (by go_simp)).mono ?_; rintro e w1 ⟨rfl, hb⟩; have HB1 : Aside0 (Below w.heap.size w w1) := ⟨below_step (by repeat (first | exact Below.refl _ _ | apply below_alloc)) hb⟩; have z0 := (HB1.out.cell hb1).trans HZ0.out; have z1 := (HB1.out.cell (World.block_lt_of_cell? _ _ HZ1.out)).trans HZ1.out; have y0 : w1.cell? ⟨w.heap.size, 0, none⟩ = some (.slice (some ad) l.length c) := (hb.cell (p := ⟨w.heap.size, 0, none⟩) (by simp; omega)).trans (by go_simp); have y1 : w1.cell? ⟨w.heap.size + 1, 0, none⟩ = some (.string u0) := (hb.cell (p := ⟨w.heap.size + 1, 0, none⟩) (by simp)).trans (by go_simp); have y2 : w1.cell? ⟨w.heap.size + 1, 1, none⟩ = some (.string u1) := (hb.cell (p := ⟨w.heap.size + 1, 1, none⟩) (by simp)).trans (by go_simp); clear hb)
    go_quiet (fail)
    go_wp2
    go_ret2
    exact ⟨rfl, HB1.out.trans (pw_below_drewN (Below.refl _ _) _)⟩
  · have hx : l[i]? = none := List.getElem?_eq_none (by omega)
    rw [hx] at hatB
    dsimp only at hatB
    subst hatB
    have p2_ : decide ((i : Int) < (l.length : Int)) = false := decide_eq_false (by omega)
    clear hx
    go_enter Tryz.func82, Tryz.ntmps82
    go_wp2_with (go_at_call 63; refine (HSR.out _ (by repeat (first | exact Below.refl _ _ | apply below_alloc)) _ _ (by go_simp) (by go_simp) (by go_simp)).mono ?_; rintro e w1 ⟨rfl, hb⟩; have HB1 : Aside0 (Below w.heap.size w w1) := ⟨below_step (by repeat (first | exact Below.refl _ _ | apply below_alloc)) hb⟩; have y0 : w1.cell? ⟨w.heap.size, 0, none⟩ = some (.slice A l.length c) := (hb.cell (p := ⟨w.heap.size, 0, none⟩) (by simp; omega)).trans (by go_simp); have y1 : w1.cell? ⟨w.heap.size + 1, 0, none⟩ = some (.string u0) := (hb.cell (p := ⟨w.heap.size + 1, 0, none⟩) (by simp)).trans (by go_simp); have y2 : w1.cell? ⟨w.heap.size + 1, 1, none⟩ = some (.string u1) := (hb.cell (p := ⟨w.heap.size + 1, 1, none⟩) (by simp)).trans (by go_simp); clear hb)
    go_quiet (fail)
    go_wp2
    go_ret2
    exact ⟨rfl, HB1.out.trans (pw_below_drewN (Below.refl _ _) _)⟩
/-- An own row: its cells, one behind the other. -/
theorem N_cells {α : Type} {d : Kd α} {e : Nat} {w : World} {base : Nat} {ok : Nat → Prop} {v : Value} {xs : List α} (h : Kd.N d e w base ok v xs) : ∃ inner : List Value, w.ownsRow base e d.sz v xs.length inner ∧ (∀ u ∈ inner, u.oneCell' = true) ∧ (∀ q, v.ownBlock = some q → ok q) ∧ ∀ (j : Nat) (x : α), xs[j]? = some x → Kd.FK d w (fun q => ok q ∧ some q ≠ v.ownBlock) x ((inner.drop (j * d.sz)).take d.sz) := by
  obtain ⟨h0, rows, hl, ⟨_, inner, ho, hr⟩, hf⟩ := h
  have ho' : w.ownsRow base e d.sz v xs.length inner := by rw [← hl]; exact ho
  have hch : ∀ (j : Nat) (x : α), xs[j]? = some x → Kd.FK d w (fun q => ok q ∧ some q ≠ v.ownBlock) x ((inner.drop (j * d.sz)).take d.sz) := fun j x hj => by
    have hjl : j < rows.length := by rw [hl]; exact (List.getElem?_eq_some_iff.1 hj).1
    have h1 := hr.2 j _ (List.getElem?_eq_getElem hjl)
    have h2 : (inner.drop (j * d.sz)).take d.sz = rows[j] := h1.1
    rw [h2]
    exact hf j x _ hj (List.getElem?_eq_getElem hjl)
  refine ⟨inner, ho', ?_, h0, hch⟩
  intro u hu
  obtain ⟨i, hi⟩ := List.getElem?_of_mem hu
  have hil := (List.getElem?_eq_some_iff.1 hi).1
  have hlen := ho'.1
  have hs0 : 0 < d.sz := by
    rcases Nat.eq_zero_or_pos d.sz with h5 | h5
    · rw [hlen, h5, Nat.mul_zero] at hil; omega
    · exact h5
  have hj : i / d.sz < xs.length := by rw [Nat.div_lt_iff_lt_mul hs0, ← hlen]; exact hil
  have hk := d.K_one (Kd.FK_now (hch (i / d.sz) _ (List.getElem?_eq_getElem hj)))
  refine hk u ?_
  rw [List.mem_iff_getElem?]
  refine ⟨i % d.sz, ?_⟩
  rw [List.getElem?_take_of_lt (Nat.mod_lt _ hs0), List.getElem?_drop]
  have := Nat.div_add_mod i d.sz
  rw [Nat.mul_comm] at this
  rw [this]
  exact hi
theorem atB_lt {l : List S32} {u0 u1 : ByteArray} (h : atB l u0 u1 = true) : atI l u0 u1 < l.length := by
  unfold atB at h
  by_cases hi : atI l u0 u1 < l.length
  · exact hi
  · rw [List.getElem?_eq_none (by omega)] at h
    cases h
end Go.Proofs.YtelibndkkokadaaGreat.GT
