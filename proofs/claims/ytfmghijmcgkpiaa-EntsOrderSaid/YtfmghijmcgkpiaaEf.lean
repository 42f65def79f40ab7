import Derived.Test.YtfmghijmcgkpiaaGO0
import Derived.Test.YtfmghijmcgkpiaaEd
import Derived.Test.YtfmghijmcgkpiaaGO10
namespace Go.Proofs.Ytfmghijmcgkpiaa.GT
open Go.RowKit Go.Proofs.YtfmghijmcgkpiaaW.PrintWords Go.Proofs.YtfmghijmcgkpiaaW.PrintLast Go.Proofs.Ytfmghijmcgkpiaa.HandV Go.Proofs.YtfmghijmcgkpiaaW.PrintMore
open Go.Proofs.Ytfmghijmcgkpiaa.GO
attribute [local go_sem] max2_int min2_int max_two min_two max_three min_three max_four min_four   -- for this text's walks alone
set_option linter.unusedVariables false
set_option linter.unusedSimpArgs false
-- IMPORT .Ed
-- FN api_Uid
mutual
/-- Is all the same in two values? -/
def sameV : S31 → S31 → Bool
 | ⟨k, b, n, s, u, l⟩, ⟨k2, b2, n2, s2, u2, l2⟩ => (k == k2) && ((b == b2) && ((n == n2) && ((s.toList == s2.toList) && ((u.f0.toList == u2.f0.toList && u.f1.toList == u2.f1.toList) && sameL l l2))))
def sameL : List S31 → List S31 → Bool
 | [], [] => true
 | [], _ :: _ => false
 | _ :: _, [] => false
 | x :: xs, y :: ys => sameV x y && sameL xs ys
end
/-- ents.sameValue tells it. -/
def SameOk (x y : S31) : Prop := ∀ (A B : Option Addr) (c d : Nat) (w : World), x.f5.length ≤ c → k31.C w A x.f5.length x.f5 → y.f5.length ≤ d → k31.C w B y.f5.length y.f5 →
 Calls Try.prog 95 #[.agg #[.int .i64 x.f0, .bool x.f1, .int .i64 x.f2, .string x.f3, .string x.f4.f0, .string x.f4.f1, .slice A x.f5.length c], .agg #[.int .i64 y.f0, .bool y.f1, .int .i64 y.f2, .string y.f3, .string y.f4.f0, .string y.f4.f1, .slice B y.f5.length d]] w fun e w' => e = .returned (.bool (sameV x y)) ∧ Below w.heap.size w w'

theorem sameL_drop (l1 l2 : List S31) (k : Nat) (x y : S31) (hx : l1[k]? = some x) (hy : l2[k]? = some y) : sameL (l1.drop k) (l2.drop k) = (sameV x y && sameL (l1.drop (k + 1)) (l2.drop (k + 1))) := by
 obtain ⟨h1, rfl⟩ := List.getElem?_eq_some_iff.1 hx
 obtain ⟨h2, rfl⟩ := List.getElem?_eq_some_iff.1 hy
 rw [List.drop_eq_getElem_cons h1, List.drop_eq_getElem_cons h2]
 simp only [sameL]
theorem sameL_len : ∀ (l1 l2 : List S31), l1.length ≠ l2.length → sameL l1 l2 = false
 | [], [], h => absurd rfl h
 | [], _ :: _, _ => by simp only [sameL]
 | _ :: _, [], _ => by simp only [sameL]
 | x :: xs, y :: ys, h => by
  simp only [sameL]
  rw [sameL_len xs ys (by simpa using h), Bool.and_false]

theorem val_atT {w : World} {A : Option Addr} {n : Nat} {xs : List S31} (h : Kd.C k31 w A n xs) (k : Nat) (x : S31) (hx : xs[k]? = some x) : ∃ ad A6 c6, A = some ad ∧ w.cell? (ad.add (k * 7)) = some (.int .i64 x.f0) ∧ w.cell? ⟨(ad.add (k * 7)).block, (ad.add (k * 7)).off + 1, none⟩ = some (.bool x.f1) ∧ w.cell? ⟨(ad.add (k * 7)).block, (ad.add (k * 7)).off + 2, none⟩ = some (.int .i64 x.f2) ∧ w.cell? ⟨(ad.add (k * 7)).block, (ad.add (k * 7)).off + 3, none⟩ = some (.string x.f3) ∧ w.cell? ⟨(ad.add (k * 7)).block, (ad.add (k * 7)).off + 4, none⟩ = some (.string x.f4.f0) ∧ w.cell? ⟨(ad.add (k * 7)).block, (ad.add (k * 7)).off + 5, none⟩ = some (.string x.f4.f1) ∧ w.cell? ⟨(ad.add (k * 7)).block, (ad.add (k * 7)).off + 6, none⟩ = some (.slice A6 x.f5.length c6) ∧ x.f5.length ≤ c6 ∧ k31.C w A6 x.f5.length x.f5 := by
 have hlt : k < xs.length := (List.getElem?_eq_some_iff.1 hx).1
 have hr : rd_T31 xs (k : Int) = x := by unfold rd_T31; rw [Int.toNat_natCast, List.getD_eq_getElem?_getD, hx]; rfl
 have hn := Kd.C_len h
 have h1 := at_T31 h (k : Int) (by omega) (by omega)
 rw [hr, Int.toNat_natCast] at h1
 exact h1

set_option maxRecDepth 100000 in
set_option maxHeartbeats 8000000 in
theorem equalV (l1 l2 : List S31) (ih : ∀ x ∈ l1, ∀ y, SameOk x y) (A B : Option Addr) (c d : Nat) (w : World) (h1 : l1.length ≤ c) (hC : k31.C w A l1.length l1) (h2 : l2.length ≤ d) (hD : k31.C w B l2.length l2) :
  Calls Try.prog 134 #[.slice A l1.length c, .slice B l2.length d, .func (.func 95) #[] #[]] w fun e w' => e = .returned (.bool (sameL l1 l2)) ∧ Below w.heap.size w w' := by
 have HC := Aside0.mk hC
 have HD := Aside0.mk hD
 have HIH := Aside0.mk ih
 have hmx := Kd.C_max hC
 have hm2 : (l1.length : Int) ≤ 9223372036854775807 := by omega
 clear hC hD ih h1 h2
 by_cases hn : l1.length = l2.length
 ·
  have hne : ((l1.length : Int) != (l2.length : Int)) = false := by simp [hn]
  have hne2 : (l1.length != l2.length) = false := by simp [hn]
  have HN := Aside0.mk hn
  obtain ⟨r, hr⟩ : ∃ r, sameL l1 l2 = r := ⟨_, rfl⟩
  rw [hr]
  have HR := Aside0.mk hr
  clear hn hr
  go_enter Try.func134, Try.ntmps134
  go_wp2
  go_loopw [17] (fun i wr => ∃ k : Nat, k ≤ l1.length ∧ i = .int .i64 (k : Int) ∧ Aside0 (sameL (l1.drop k) (l2.drop k) = r) ∧ Aside0 (Below w.heap.size w wr)) (fun i _ => l1.length - (intOf i).toNat)
  case atStart => exact ⟨0, Nat.zero_le _, rfl, HR, ⟨Below.refl _ _⟩⟩
  case round =>
   clear HR
   obtain ⟨k, hk, rfl, HR, HB⟩ := hrel
   have hwle := HB.out.size
   by_cases hlt : k < l1.length
   ·
    obtain ⟨x, hx⟩ : ∃ x, l1[k]? = some x := ⟨_, List.getElem?_eq_getElem hlt⟩
    have hlt2 : k < l2.length := by have := HN.out; omega
    obtain ⟨y, hy⟩ : ∃ y, l2[k]? = some y := ⟨_, List.getElem?_eq_getElem hlt2⟩
    have hr := HR.out
    rw [sameL_drop l1 l2 k x y hx hy] at hr
    obtain ⟨ad, Ax, cx, rfl, a0, a1, a2, a3, a4, a5, a6, hlx, hCx⟩ := val_atT (Kd.C_below HC.out HB.out) k x hx
    obtain ⟨bd, By, dy, rfl, b0, b1, b2, b3, b4, b5, b6, hly, hCy⟩ := val_atT (Kd.C_below HD.out HB.out) k y hy
    have hab : (ad.add (k * 7)).block < wr.heap.size := World.block_lt_of_cell? _ _ a0
    have hbb : (bd.add (k * 7)).block < wr.heap.size := World.block_lt_of_cell? _ _ b0
    have han : ¬ (ad.add (k * 7)).block = wr.heap.size := Nat.ne_of_lt hab
    have hbn : ¬ (bd.add (k * 7)).block = wr.heap.size := Nat.ne_of_lt hbb
    have hbn2 : ¬ (bd.add (k * 7)).block = wr.heap.size + 1 := by omega
    have hlt0 : decide ((k : Int) < (l1.length : Int)) = true := decide_eq_true (by omega)
    have p0_ : (0 ≤ (k : Int)) = True := eq_true (by omega)
    have p1_ : ((k : Int) < (l1.length : Int)) = True := eq_true (by omega)
    have p2_ : ((k : Int) < (l2.length : Int)) = True := eq_true (by omega)
    have HLX := Aside0.mk hlx
    have HLY := Aside0.mk hly
    have HCX := Aside0.mk hCx
    have HCY := Aside0.mk hCy
    have HI := Aside0.mk (HIH.out x (List.mem_of_getElem? hx) y)
    clear hlx hly hCx hCy hx hy HR
    cases hs : sameV x y with
    | true =>
     rw [hs, Bool.true_and] at hr
     have HR := Aside0.mk hr
     have HI2 : Aside0 (∀ W, Below wr.heap.size wr W → Calls Try.prog 95 #[.agg #[.int .i64 x.f0, .bool x.f1, .int .i64 x.f2, .string x.f3, .string x.f4.f0, .string x.f4.f1, .slice Ax x.f5.length cx], .agg #[.int .i64 y.f0, .bool y.f1, .int .i64 y.f2, .string y.f3, .string y.f4.f0, .string y.f4.f1, .slice By y.f5.length dy]] W fun e w' => e = .returned (.bool true) ∧ Below W.heap.size W w') := ⟨fun W hW => by have := HI.out Ax By cx dy W HLX.out (Kd.C_below HCX.out hW) HLY.out (Kd.C_below HCY.out hW); rwa [hs] at this⟩
     clear hr hs HI HLX HLY HCX HCY
     go_wp2_with (go_at_call 95; refine (HI2.out _ (by repeat (first | exact Below.refl _ _ | apply below_alloc))).mono ?_; rintro e w1 ⟨rfl, hb⟩; have HB1 : Aside0 (Below w.heap.size w w1) := ⟨below_step (by repeat (first | exact HB.out | apply below_alloc)) hb⟩; clear hb)
     go_roundw
     case rel => exact ⟨k + 1, by omega, by go_num, HR, HB1⟩
     case measure => simp [intOf]; omega
    | false =>
     rw [hs, Bool.false_and] at hr
     have HI2 : Aside0 (∀ W, Below wr.heap.size wr W → Calls Try.prog 95 #[.agg #[.int .i64 x.f0, .bool x.f1, .int .i64 x.f2, .string x.f3, .string x.f4.f0, .string x.f4.f1, .slice Ax x.f5.length cx], .agg #[.int .i64 y.f0, .bool y.f1, .int .i64 y.f2, .string y.f3, .string y.f4.f0, .string y.f4.f1, .slice By y.f5.length dy]] W fun e w' => e = .returned (.bool false) ∧ Below W.heap.size W w') := ⟨fun W hW => by have := HI.out Ax By cx dy W HLX.out (Kd.C_below HCX.out hW) HLY.out (Kd.C_below HCY.out hW); rwa [hs] at this⟩
     subst hr
     clear hs HI HLX HLY HCX HCY
     go_wp2_with (go_at_call 95; refine (HI2.out _ (by repeat (first | exact Below.refl _ _ | apply below_alloc))).mono ?_; rintro e w1 ⟨rfl, hb⟩; have HB1 : Aside0 (Below w.heap.size w w1) := ⟨below_step (by repeat (first | exact HB.out | apply below_alloc)) hb⟩; clear hb)
     go_ret
     exact ⟨rfl, HB1.out⟩
   ·
    obtain rfl : k = l1.length := by omega
    have hlt0 : decide ((l1.length : Int) < (l1.length : Int)) = false := decide_eq_false (by omega)
    have hr := HR.out
    rw [List.drop_of_length_le (Nat.le_refl _), List.drop_of_length_le (by rw [HN.out]; exact Nat.le_refl _)] at hr
    have hr' : true = r := hr
    subst hr'
    clear hr HR
    go_wp2
    go_ret
    exact ⟨rfl, HB.out⟩
 ·
  have hne : ((l1.length : Int) != (l2.length : Int)) = true := by simp; omega
  have hne2 : (l1.length != l2.length) = true := by simp; omega
  rw [sameL_len l1 l2 hn]
  clear hn
  go_enter Try.func134, Try.ntmps134
  go_wp2
  go_ret
  exact ⟨rfl, Below.refl _ _⟩

theorem sameV_eq (x y : S31) : sameV x y = ((x.f0 == y.f0) && ((x.f1 == y.f1) && ((x.f2 == y.f2) && ((x.f3.toList == y.f3.toList) && ((x.f4.f0.toList == y.f4.f0.toList && x.f4.f1.toList == y.f4.f1.toList) && sameL x.f5 y.f5))))) := by
 cases x; cases y; simp only [sameV]
set_option maxRecDepth 100000 in
set_option maxHeartbeats 16000000 in
theorem sameV_step (x y : S31) (ih : ∀ a ∈ x.f5, ∀ b, SameOk a b) : SameOk x y := by
 intro A B c d w h1 hC h2 hD
 have HC := Aside0.mk hC
 have HD := Aside0.mk hD
 have H1 := Aside0.mk h1
 have H2 := Aside0.mk h2
 have HIH := Aside0.mk ih
 clear hC hD h1 h2 ih
 rw [sameV_eq]
 cases e0 : (x.f0 == y.f0) with
 | false =>
  simp only [Bool.false_and, Bool.true_and]
  go_enter Try.func95, Try.ntmps95
  go_wp2
  go_ret
  exact ⟨rfl, by repeat (first | exact Below.refl _ _ | apply below_alloc)⟩
 | true =>
  cases e1 : (x.f1 == y.f1) with
  | false =>
   simp only [Bool.false_and, Bool.true_and]
   go_enter Try.func95, Try.ntmps95
   go_wp2
   go_ret
   exact ⟨rfl, by repeat (first | exact Below.refl _ _ | apply below_alloc)⟩
  | true =>
   cases e2 : (x.f2 == y.f2) with
   | false =>
    simp only [Bool.false_and, Bool.true_and]
    go_enter Try.func95, Try.ntmps95
    go_wp2
    go_ret
    exact ⟨rfl, by repeat (first | exact Below.refl _ _ | apply below_alloc)⟩
   | true =>
    cases e3 : (x.f3.toList == y.f3.toList) with
    | false =>
     simp only [Bool.false_and, Bool.true_and]
     go_enter Try.func95, Try.ntmps95
     go_wp2
     go_ret
     exact ⟨rfl, by repeat (first | exact Below.refl _ _ | apply below_alloc)⟩
    | true =>
     cases e4 : (x.f4.f0.toList == y.f4.f0.toList && x.f4.f1.toList == y.f4.f1.toList) with
     | false =>
      have heq := fun W => eq28run W x.f4.f0 x.f4.f1 y.f4.f0 y.f4.f1
      rw [e4] at heq
      simp only [Bool.false_and, Bool.true_and]
      go_enter Try.func95, Try.ntmps95
      go_wp2
      go_ret
      exact ⟨rfl, by repeat (first | exact Below.refl _ _ | apply below_alloc)⟩
     | true =>
      have heq := fun W => eq28run W x.f4.f0 x.f4.f1 y.f4.f0 y.f4.f1
      rw [e4] at heq
      simp only [Bool.true_and]
      have HE := Aside0.mk (fun W (hW : Below w.heap.size w W) => equalV x.f5 y.f5 HIH.out A B c d W H1.out (Kd.C_below HC.out hW) H2.out (Kd.C_below HD.out hW))
      go_enter Try.func95, Try.ntmps95
      go_wp2_with (go_at_call 134; refine (HE.out _ (by repeat (first | exact Below.refl _ _ | apply below_alloc))).mono ?_; rintro e w1 ⟨rfl, hb⟩; have HB1 : Aside0 (Below w.heap.size w w1) := ⟨below_step (by repeat (first | exact Below.refl _ _ | apply below_alloc)) hb⟩; clear hb)
      go_ret
      exact ⟨rfl, HB1.out⟩

theorem sameV_all : ∀ (n : Nat) (x : S31), SizeOf.sizeOf x < n → ∀ y, SameOk x y
 | 0, _, h, _ => absurd h (Nat.not_lt_zero _)
 | n + 1, ⟨f0, f1, f2, f3, f4, l⟩, h, y => sameV_step _ y (fun a ha => sameV_all n a (by have ha' : a ∈ l := ha; have := List.sizeOf_lt_of_mem ha'; simp at h; omega))
theorem sameV_any (x y : S31) : SameOk x y := sameV_all _ x (Nat.lt_succ_self _) y
def sameU (x y : S28) : Bool := x.f0.toList == y.f0.toList && x.f1.toList == y.f1.toList
def sameUs : List S28 → List S28 → Bool
 | [], [] => true
 | [], _ :: _ => false
 | _ :: _, [] => false
 | x :: xs, y :: ys => sameU x y && sameUs xs ys
def sameA (x y : S49) : Bool := x.f0.toList == y.f0.toList && sameV x.f1 y.f1
def sameAs : List S49 → List S49 → Bool
 | [], [] => true
 | [], _ :: _ => false
 | _ :: _, [] => false
 | x :: xs, y :: ys => sameA x y && sameAs xs ys
def sameEn (x y : S46) : Bool := (x.f0.f0.toList == y.f0.f0.toList && x.f0.f1.toList == y.f0.f1.toList) && (sameUs x.f1 y.f1 && sameAs x.f2 y.f2)
theorem sameUs_drop (l1 l2 : List S28) (k : Nat) (x y : S28) (hx : l1[k]? = some x) (hy : l2[k]? = some y) : sameUs (l1.drop k) (l2.drop k) = (sameU x y && sameUs (l1.drop (k + 1)) (l2.drop (k + 1))) := by
 obtain ⟨h1, rfl⟩ := List.getElem?_eq_some_iff.1 hx
 obtain ⟨h2, rfl⟩ := List.getElem?_eq_some_iff.1 hy
 rw [List.drop_eq_getElem_cons h1, List.drop_eq_getElem_cons h2]
 simp only [sameUs]
theorem sameUs_len : ∀ (l1 l2 : List S28), l1.length ≠ l2.length → sameUs l1 l2 = false
 | [], [], h => absurd rfl h
 | [], _ :: _, _ => by simp only [sameUs]
 | _ :: _, [], _ => by simp only [sameUs]
 | x :: xs, y :: ys, h => by
  simp only [sameUs]
  rw [sameUs_len xs ys (by simpa using h), Bool.and_false]
theorem sameAs_drop (l1 l2 : List S49) (k : Nat) (x y : S49) (hx : l1[k]? = some x) (hy : l2[k]? = some y) : sameAs (l1.drop k) (l2.drop k) = (sameA x y && sameAs (l1.drop (k + 1)) (l2.drop (k + 1))) := by
 obtain ⟨h1, rfl⟩ := List.getElem?_eq_some_iff.1 hx
 obtain ⟨h2, rfl⟩ := List.getElem?_eq_some_iff.1 hy
 rw [List.drop_eq_getElem_cons h1, List.drop_eq_getElem_cons h2]
 simp only [sameAs]
theorem sameAs_len : ∀ (l1 l2 : List S49), l1.length ≠ l2.length → sameAs l1 l2 = false
 | [], [], h => absurd rfl h
 | [], _ :: _, _ => by simp only [sameAs]
 | _ :: _, [], _ => by simp only [sameAs]
 | x :: xs, y :: ys, h => by
  simp only [sameAs]
  rw [sameAs_len xs ys (by simpa using h), Bool.and_false]
theorem equalU_l (l1 l2 : List S28) (hn : l1.length = l2.length) (hm : (l1.length : Int) ≤ 9223372036854775806) : ∀ (d k : Nat) (i : Nat), i + d = l1.length → d < k → api_Uid.l0 k l1 l2 (l1.length : Int) (i : Int) = some (sameUs (l1.drop i) (l2.drop i))
 | 0, k, i, hi, hk => by
  obtain ⟨k, rfl⟩ : ∃ m, k = m + 1 := ⟨k - 1, by omega⟩
  have h1 : l1.drop i = [] := List.drop_eq_nil_of_le (by omega)
  have h2 : l2.drop i = [] := List.drop_eq_nil_of_le (by omega)
  simp only [api_Uid.l0]
  rw [if_neg (by omega), h1, h2]
  rfl
 | d + 1, k, i, hi, hk => by
  obtain ⟨k, rfl⟩ : ∃ m, k = m + 1 := ⟨k - 1, by omega⟩
  have h1 : i < l1.length := by omega
  have h2 : i < l2.length := by omega
  have hr1 : rd_T28 l1 (i : Int) = l1[i] := by unfold rd_T28; rw [Int.toNat_natCast, List.getD_eq_getElem?_getD, List.getElem?_eq_getElem h1]; rfl
  have hr2 : rd_T28 l2 (i : Int) = l2[i] := by unfold rd_T28; rw [Int.toNat_natCast, List.getD_eq_getElem?_getD, List.getElem?_eq_getElem h2]; rfl
  rw [sameUs_drop l1 l2 i l1[i] l2[i] (List.getElem?_eq_getElem h1) (List.getElem?_eq_getElem h2)]
  simp only [api_Uid.l0]
  rw [if_pos (by omega), if_pos (by omega), if_pos (by omega), if_pos (by omega), hr1, hr2]
  have hw : wrap64 ((i : Int) + 1) = ((i + 1 : Nat) : Int) := by unfold wrap64; omega
  cases hs : sameU l1[i] l2[i] with
  | true =>
   rw [if_neg (by unfold sameU at hs; simp only [Bool.and_eq_true] at hs; simp [hs.1, hs.2]), hw, Bool.true_and]
   exact equalU_l l1 l2 hn hm d k (i + 1) (by omega) (by omega)
  | false =>
   rw [if_pos (by unfold sameU at hs; simp only [Bool.and_eq_false_iff] at hs; rcases hs with hs | hs <;> simp [hs]), Bool.false_and]
theorem equalU_f (l1 l2 : List S28) (hm : (l1.length : Int) ≤ 9223372036854775806) : api_Uid.f (l1.length + 1) l1 l2 = some (sameUs l1 l2) := by
 unfold api_Uid.f
 by_cases hn : l1.length = l2.length
 ·
  rw [if_pos (by omega)]
  exact equalU_l l1 l2 hn hm l1.length (l1.length + 1) 0 (by omega) (by omega)
 ·
  rw [if_neg (by omega), sameUs_len l1 l2 hn]
/-- Same$1: two attributes. -/
def SameAOk (x y : S49) : Prop := ∀ (A B : Option Addr) (c d : Nat) (w : World), x.f1.f5.length ≤ c → k31.C w A x.f1.f5.length x.f1.f5 → y.f1.f5.length ≤ d → k31.C w B y.f1.f5.length y.f1.f5 →
 Calls Try.prog 94 #[.agg #[.string x.f0, .int .i64 x.f1.f0, .bool x.f1.f1, .int .i64 x.f1.f2, .string x.f1.f3, .string x.f1.f4.f0, .string x.f1.f4.f1, .slice A x.f1.f5.length c], .agg #[.string y.f0, .int .i64 y.f1.f0, .bool y.f1.f1, .int .i64 y.f1.f2, .string y.f1.f3, .string y.f1.f4.f0, .string y.f1.f4.f1, .slice B y.f1.f5.length d]] w fun e w' => e = .returned (.bool (sameA x y)) ∧ Below w.heap.size w w'
set_option maxRecDepth 100000 in
set_option maxHeartbeats 16000000 in
theorem sameA_any (x y : S49) : SameAOk x y := by
 intro A B c d w h1 hC h2 hD
 have HC := Aside0.mk hC
 have HD := Aside0.mk hD
 have H1 := Aside0.mk h1
 have H2 := Aside0.mk h2
 clear hC hD h1 h2
 unfold sameA
 cases e0 : (x.f0.toList == y.f0.toList) with
 | false =>
  simp only [Bool.false_and]
  go_enter Try.func94, Try.ntmps94
  go_wp2
  go_ret
  exact ⟨rfl, by repeat (first | exact Below.refl _ _ | apply below_alloc)⟩
 | true =>
  simp only [Bool.true_and]
  have HE := Aside0.mk (fun W (hW : Below w.heap.size w W) => sameV_any x.f1 y.f1 A B c d W H1.out (Kd.C_below HC.out hW) H2.out (Kd.C_below HD.out hW))
  go_enter Try.func94, Try.ntmps94
  go_wp2_with (go_at_call 95; refine (HE.out _ (by repeat (first | exact Below.refl _ _ | apply below_alloc))).mono ?_; rintro e w1 ⟨rfl, hb⟩; have HB1 : Aside0 (Below w.heap.size w w1) := ⟨below_step (by repeat (first | exact Below.refl _ _ | apply below_alloc)) hb⟩; clear hb)
  go_ret
  exact ⟨rfl, HB1.out⟩
theorem att_atT {w : World} {A : Option Addr} {n : Nat} {xs : List S49} (h : Kd.C k49 w A n xs) (k : Nat) (x : S49) (hx : xs[k]? = some x) : ∃ ad A6 c6, A = some ad ∧ w.cell? (ad.add (k * 8)) = some (.string x.f0) ∧ w.cell? ⟨(ad.add (k * 8)).block, (ad.add (k * 8)).off + 1, none⟩ = some (.int .i64 x.f1.f0) ∧ w.cell? ⟨(ad.add (k * 8)).block, (ad.add (k * 8)).off + 2, none⟩ = some (.bool x.f1.f1) ∧ w.cell? ⟨(ad.add (k * 8)).block, (ad.add (k * 8)).off + 3, none⟩ = some (.int .i64 x.f1.f2) ∧ w.cell? ⟨(ad.add (k * 8)).block, (ad.add (k * 8)).off + 4, none⟩ = some (.string x.f1.f3) ∧ w.cell? ⟨(ad.add (k * 8)).block, (ad.add (k * 8)).off + 5, none⟩ = some (.string x.f1.f4.f0) ∧ w.cell? ⟨(ad.add (k * 8)).block, (ad.add (k * 8)).off + 6, none⟩ = some (.string x.f1.f4.f1) ∧ w.cell? ⟨(ad.add (k * 8)).block, (ad.add (k * 8)).off + 7, none⟩ = some (.slice A6 x.f1.f5.length c6) ∧ x.f1.f5.length ≤ c6 ∧ k31.C w A6 x.f1.f5.length x.f1.f5 := by
 have hlt : k < xs.length := (List.getElem?_eq_some_iff.1 hx).1
 have hr : rd_T49 xs (k : Int) = x := by unfold rd_T49; rw [Int.toNat_natCast, List.getD_eq_getElem?_getD, hx]; rfl
 have hn := Kd.C_len h
 have h1 := at_T49 h (k : Int) (by omega) (by omega)
 rw [hr, Int.toNat_natCast] at h1
 exact h1
set_option maxRecDepth 100000 in
set_option maxHeartbeats 8000000 in
theorem equalA (l1 l2 : List S49) (ih : ∀ x ∈ l1, ∀ y, SameAOk x y) (A B : Option Addr) (c d : Nat) (w : World) (h1 : l1.length ≤ c) (hC : k49.C w A l1.length l1) (h2 : l2.length ≤ d) (hD : k49.C w B l2.length l2) :
  Calls Try.prog 93 #[.slice A l1.length c, .slice B l2.length d, .func (.func 94) #[] #[]] w fun e w' => e = .returned (.bool (sameAs l1 l2)) ∧ Below w.heap.size w w' := by
 have HC := Aside0.mk hC
 have HD := Aside0.mk hD
 have HIH := Aside0.mk ih
 have hmx := Kd.C_max hC
 have hm2 : (l1.length : Int) ≤ 9223372036854775807 := by omega
 clear hC hD ih h1 h2
 by_cases hn : l1.length = l2.length
 ·
  have hne : ((l1.length : Int) != (l2.length : Int)) = false := by simp [hn]
  have hne2 : (l1.length != l2.length) = false := by simp [hn]
  have HN := Aside0.mk hn
  obtain ⟨r, hr⟩ : ∃ r, sameAs l1 l2 = r := ⟨_, rfl⟩
  rw [hr]
  have HR := Aside0.mk hr
  clear hn hr
  go_enter Try.func93, Try.ntmps93
  go_wp2
  go_loopw [17] (fun i wr => ∃ k : Nat, k ≤ l1.length ∧ i = .int .i64 (k : Int) ∧ Aside0 (sameAs (l1.drop k) (l2.drop k) = r) ∧ Aside0 (Below w.heap.size w wr)) (fun i _ => l1.length - (intOf i).toNat)
  case atStart => exact ⟨0, Nat.zero_le _, rfl, HR, ⟨Below.refl _ _⟩⟩
  case round =>
   clear HR
   obtain ⟨k, hk, rfl, HR, HB⟩ := hrel
   have hwle := HB.out.size
   by_cases hlt : k < l1.length
   ·
    obtain ⟨x, hx⟩ : ∃ x, l1[k]? = some x := ⟨_, List.getElem?_eq_getElem hlt⟩
    have hlt2 : k < l2.length := by have := HN.out; omega
    obtain ⟨y, hy⟩ : ∃ y, l2[k]? = some y := ⟨_, List.getElem?_eq_getElem hlt2⟩
    have hr := HR.out
    rw [sameAs_drop l1 l2 k x y hx hy] at hr
    obtain ⟨ad, Ax, cx, rfl, a0, a1, a2, a3, a4, a5, a6, a7, hlx, hCx⟩ := att_atT (Kd.C_below HC.out HB.out) k x hx
    obtain ⟨bd, By, dy, rfl, b0, b1, b2, b3, b4, b5, b6, b7, hly, hCy⟩ := att_atT (Kd.C_below HD.out HB.out) k y hy
    have hab : (ad.add (k * 8)).block < wr.heap.size := World.block_lt_of_cell? _ _ a0
    have hbb : (bd.add (k * 8)).block < wr.heap.size := World.block_lt_of_cell? _ _ b0
    have han : ¬ (ad.add (k * 8)).block = wr.heap.size := Nat.ne_of_lt hab
    have hbn : ¬ (bd.add (k * 8)).block = wr.heap.size := Nat.ne_of_lt hbb
    have hbn2 : ¬ (bd.add (k * 8)).block = wr.heap.size + 1 := by omega
    have hlt0 : decide ((k : Int) < (l1.length : Int)) = true := decide_eq_true (by omega)
    have p0_ : (0 ≤ (k : Int)) = True := eq_true (by omega)
    have p1_ : ((k : Int) < (l1.length : Int)) = True := eq_true (by omega)
    have p2_ : ((k : Int) < (l2.length : Int)) = True := eq_true (by omega)
    have HLX := Aside0.mk hlx
    have HLY := Aside0.mk hly
    have HCX := Aside0.mk hCx
    have HCY := Aside0.mk hCy
    have HI := Aside0.mk (HIH.out x (List.mem_of_getElem? hx) y)
    clear hlx hly hCx hCy hx hy HR
    cases hs : sameA x y with
    | true =>
     rw [hs, Bool.true_and] at hr
     have HR := Aside0.mk hr
     have HI2 : Aside0 (∀ W, Below wr.heap.size wr W → Calls Try.prog 94 #[.agg #[.string x.f0, .int .i64 x.f1.f0, .bool x.f1.f1, .int .i64 x.f1.f2, .string x.f1.f3, .string x.f1.f4.f0, .string x.f1.f4.f1, .slice Ax x.f1.f5.length cx], .agg #[.string y.f0, .int .i64 y.f1.f0, .bool y.f1.f1, .int .i64 y.f1.f2, .string y.f1.f3, .string y.f1.f4.f0, .string y.f1.f4.f1, .slice By y.f1.f5.length dy]] W fun e w' => e = .returned (.bool true) ∧ Below W.heap.size W w') := ⟨fun W hW => by have := HI.out Ax By cx dy W HLX.out (Kd.C_below HCX.out hW) HLY.out (Kd.C_below HCY.out hW); rwa [hs] at this⟩
     clear hr hs HI HLX HLY HCX HCY
     go_wp2_with (go_at_call 94; refine (HI2.out _ (by repeat (first | exact Below.refl _ _ | apply below_alloc))).mono ?_; rintro e w1 ⟨rfl, hb⟩; have HB1 : Aside0 (Below w.heap.size w w1) := ⟨below_step (by repeat (first | exact HB.out | apply below_alloc)) hb⟩; clear hb)
     go_roundw
     case rel => exact ⟨k + 1, by omega, by go_num, HR, HB1⟩
     case measure => simp [intOf]; omega
    | false =>
     rw [hs, Bool.false_and] at hr
     have HI2 : Aside0 (∀ W, Below wr.heap.size wr W → Calls Try.prog 94 #[.agg #[.string x.f0, .int .i64 x.f1.f0, .bool x.f1.f1, .int .i64 x.f1.f2, .string x.f1.f3, .string x.f1.f4.f0, .string x.f1.f4.f1, .slice Ax x.f1.f5.length cx], .agg #[.string y.f0, .int .i64 y.f1.f0, .bool y.f1.f1, .int .i64 y.f1.f2, .string y.f1.f3, .string y.f1.f4.f0, .string y.f1.f4.f1, .slice By y.f1.f5.length dy]] W fun e w' => e = .returned (.bool false) ∧ Below W.heap.size W w') := ⟨fun W hW => by have := HI.out Ax By cx dy W HLX.out (Kd.C_below HCX.out hW) HLY.out (Kd.C_below HCY.out hW); rwa [hs] at this⟩
     subst hr
     clear hs HI HLX HLY HCX HCY
     go_wp2_with (go_at_call 94; refine (HI2.out _ (by repeat (first | exact Below.refl _ _ | apply below_alloc))).mono ?_; rintro e w1 ⟨rfl, hb⟩; have HB1 : Aside0 (Below w.heap.size w w1) := ⟨below_step (by repeat (first | exact HB.out | apply below_alloc)) hb⟩; clear hb)
     go_ret
     exact ⟨rfl, HB1.out⟩
   ·
    obtain rfl : k = l1.length := by omega
    have hlt0 : decide ((l1.length : Int) < (l1.length : Int)) = false := decide_eq_false (by omega)
    have hr := HR.out
    rw [List.drop_of_length_le (Nat.le_refl _), List.drop_of_length_le (by rw [HN.out]; exact Nat.le_refl _)] at hr
    have hr' : true = r := hr
    subst hr'
    clear hr HR
    go_wp2
    go_ret
    exact ⟨rfl, HB.out⟩
 ·
  have hne : ((l1.length : Int) != (l2.length : Int)) = true := by simp; omega
  have hne2 : (l1.length != l2.length) = true := by simp; omega
  rw [sameAs_len l1 l2 hn]
  clear hn
  go_enter Try.func93, Try.ntmps93
  go_wp2
  go_ret
  exact ⟨rfl, Below.refl _ _⟩

set_option maxRecDepth 100000 in
set_option maxHeartbeats 16000000 in
/-- ents.Same tells whether all is the same. -/
theorem same_ent (x y : S46) (hm : x.f1.length ≤ 1000000) (A2 A3 B2 B3 : Option Addr) (c2 c3 d2 d3 : Nat) (w : World) (h2 : x.f1.length ≤ c2) (hC2 : k28.C w A2 x.f1.length x.f1) (h3 : x.f2.length ≤ c3) (hC3 : k49.C w A3 x.f2.length x.f2) (g2 : y.f1.length ≤ d2) (hD2 : k28.C w B2 y.f1.length y.f1) (g3 : y.f2.length ≤ d3) (hD3 : k49.C w B3 y.f2.length y.f2) :
  Calls Try.prog 30 #[.agg #[.string x.f0.f0, .string x.f0.f1, .slice A2 x.f1.length c2, .slice A3 x.f2.length c3], .agg #[.string y.f0.f0, .string y.f0.f1, .slice B2 y.f1.length d2, .slice B3 y.f2.length d3]] w fun e w' => e = .returned (.bool (sameEn x y)) ∧ Below w.heap.size w w' := by
 have HU := Aside0.mk (fun W (hW : Below w.heap.size w W) => (api_Uid.calls (x.f1.length + 1) A2 c2 x.f1 B2 d2 y.f1 _ W (Kd.C_below hC2 hW) h2 (Kd.C_below hD2 hW) g2 (equalU_f x.f1 y.f1 (by omega))))
 have HA := Aside0.mk (fun W (hW : Below w.heap.size w W) => equalA x.f2 y.f2 (fun a _ b => sameA_any a b) A3 B3 c3 d3 W h3 (Kd.C_below hC3 hW) g3 (Kd.C_below hD3 hW))
 clear hm h2 hC2 h3 hC3 g2 hD2 g3 hD3
 unfold sameEn
 have heq := fun W => eq28run W x.f0.f0 x.f0.f1 y.f0.f0 y.f0.f1
 cases e0 : (x.f0.f0.toList == y.f0.f0.toList && x.f0.f1.toList == y.f0.f1.toList) with
 | false =>
  rw [e0] at heq
  simp only [Bool.false_and]
  clear HU HA e0
  go_enter Try.func30, Try.ntmps30
  go_wp2
  go_ret
  exact ⟨rfl, by repeat (first | exact Below.refl _ _ | apply below_alloc)⟩
 | true =>
  rw [e0] at heq
  clear e0
  cases e1 : sameUs x.f1 y.f1 with
  | false =>
   rw [e1] at HU
   simp only [Bool.false_and, Bool.true_and]
   clear HA e1
   go_enter Try.func30, Try.ntmps30
   go_wp2_with (go_at_call 92; refine (HU.out _ (by repeat (first | exact Below.refl _ _ | apply below_alloc))).mono ?_; rintro e w1 ⟨rfl, hd⟩; have HB1 : Aside0 (Below w.heap.size w w1) := ⟨below_step (by repeat (first | exact Below.refl _ _ | apply below_alloc)) hd.below⟩; clear hd)
   go_ret
   exact ⟨rfl, HB1.out⟩
  | true =>
   rw [e1] at HU
   simp only [Bool.true_and]
   clear e1
   go_enter Try.func30, Try.ntmps30
   go_wp2_with (first | (go_at_call 92; refine (HU.out _ (by repeat (first | exact Below.refl _ _ | apply below_alloc))).mono ?_; rintro e w1 ⟨rfl, hd⟩; have HB1 : Aside0 (Below w.heap.size w w1) := ⟨below_step (by repeat (first | exact Below.refl _ _ | apply below_alloc)) hd.below⟩; have hb := hd.below; have r3 : w1.cell? ⟨w.heap.size, 3, none⟩ = some (.slice A3 x.f2.length c3) := (hb.cell (p := ⟨w.heap.size, 3, none⟩) (by simp; omega)).trans (by go_simp); have s3 : w1.cell? ⟨w.heap.size + 1, 3, none⟩ = some (.slice B3 y.f2.length d3) := (hb.cell (p := ⟨w.heap.size + 1, 3, none⟩) (by simp)).trans (by go_simp); clear hd hb) | (go_at_call 93; refine (HA.out _ HB1.out).mono ?_; rintro e w2 ⟨rfl, hb⟩; have HB2 : Aside0 (Below w.heap.size w w2) := ⟨below_step HB1.out hb⟩; clear hb))
   go_ret
   exact ⟨rfl, HB2.out⟩
end Go.Proofs.Ytfmghijmcgkpiaa.GT
