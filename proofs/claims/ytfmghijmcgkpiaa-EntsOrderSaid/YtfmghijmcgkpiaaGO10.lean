-- Written by wip/tools/gprint.py over the kit's printer.
import Derived.Test.YtfmghijmcgkpiaaGO0
import Derived.Test.YtfmghijmcgkpiaaGO1
import Derived.Test.YtfmghijmcgkpiaaEd
import Derived.Test.YtfmghijmcgkpiaaSqz
namespace Go.Proofs.Ytfmghijmcgkpiaa.GO
open Go.RowKit Go.Proofs.YtfmghijmcgkpiaaW.PrintWords Go.Proofs.YtfmghijmcgkpiaaW.PrintLast Go.Proofs.Ytfmghijmcgkpiaa.HandV Go.Proofs.YtfmghijmcgkpiaaW.PrintMore
attribute [local go_sem] max2_int min2_int max_two min_two max_three min_three max_four min_four   -- for this text's walks alone
set_option linter.unusedVariables false
set_option linter.unusedSimpArgs false

attribute [local go_sem high] eqA28
/-! ### ents_Put: function 28, given -/
/-- A row with an entity put into it. -/
def ents_Put.f (l0 : List S46) (a1_0 a1_1 : ByteArray) (l1_2 : List S28) (l1_3 : List S49) : Option (List S46) :=
 if l0.length ≤ 999 ∧ l0.all GT.smE = true ∧ GT.smE ⟨⟨a1_0, a1_1⟩, l1_2, l1_3⟩ = true then some (GT.putF l0 ⟨⟨a1_0, a1_1⟩, l1_2, l1_3⟩) else none
theorem ents_Put.calls (A0 : Option Addr) (c0 : Nat) (l0 : List S46) (a1_0 : ByteArray) (a1_1 : ByteArray) (A1_2 : Option Addr) (c1_2 : Nat) (l1_2 : List S28) (A1_3 : Option Addr) (c1_3 : Nat) (l1_3 : List S49) (r : List S46) (w : World) (hr0 : Kd.C k46 w A0 l0.length l0) (hc0 : l0.length ≤ c0) (hr1_2 : Kd.C k28 w A1_2 l1_2.length l1_2) (hc1_2 : l1_2.length ≤ c1_2) (hr1_3 : Kd.C k49 w A1_3 l1_3.length l1_3) (hc1_3 : l1_3.length ≤ c1_3) (h : ents_Put.f l0 a1_0 a1_1 l1_2 l1_3 = some r) :
  Calls Try.prog 28 #[.slice A0 l0.length c0, .agg #[.string a1_0, .string a1_1, .slice A1_2 l1_2.length c1_2, .slice A1_3 l1_3.length c1_3]] w fun e w' => ∃ v0_ : Value, e = .returned (v0_) ∧ Kd.V k46 46 w' w.heap.size (fun k_ => w.heap.size ≤ k_) v0_ r ∧ Below w.heap.size w w' := by
 unfold ents_Put.f at h
 by_cases hs : l0.length ≤ 999 ∧ l0.all GT.smE = true ∧ GT.smE ⟨⟨a1_0, a1_1⟩, l1_2, l1_3⟩ = true
 ·
  rw [if_pos hs] at h
  obtain rfl := Option.some.inj h
  exact GT.put_calls l0 hs.1 (fun x hx => List.all_eq_true.1 hs.2.1 x hx) ⟨⟨a1_0, a1_1⟩, l1_2, l1_3⟩ hs.2.2 A0 c0 A1_2 c1_2 A1_3 c1_3 w hc0 hr0 hc1_2 hr1_2 hc1_3 hr1_3
 ·
  rw [if_neg hs] at h
  exact absurd h (by simp)

/-! ### ents_at: function 89, given -/
/-- Where an entity stands, or would, and whether it does. -/
def ents_at.f (l0 : List S46) (a1_0 a1_1 : ByteArray) : Option (Int × Bool) :=
 if l0.length ≤ 1000 then some ((GT.atI l0 a1_0 a1_1 : Nat), GT.atB l0 a1_0 a1_1) else none
theorem ents_at.calls (A0 : Option Addr) (c0 : Nat) (l0 : List S46) (a1_0 : ByteArray) (a1_1 : ByteArray) (r1 : Int) (r2 : Bool) (w : World) (hr0 : Kd.C k46 w A0 l0.length l0) (hc0 : l0.length ≤ c0) (h : ents_at.f l0 a1_0 a1_1 = some (r1, r2)) :
  Calls Try.prog 89 #[.slice A0 l0.length c0, .agg #[.string a1_0, .string a1_1]] w fun e w' => e = .returned (.tuple #[.int .i64 r1, .bool r2]) ∧ Below w.heap.size w w' := by
 unfold ents_at.f at h
 by_cases hs : l0.length ≤ 1000
 ·
  rw [if_pos hs] at h
  simp only [Option.some.injEq, Prod.mk.injEq] at h
  obtain ⟨rfl, rfl⟩ := h
  exact GT.at_calls l0 hs a1_0 a1_1 A0 c0 w hc0 hr0
 ·
  rw [if_neg hs] at h
  exact absurd h (by simp)

/-! ### ents_twin: function 90, given -/
/-- The entity again, in memory of its own. -/
def ents_twin.f (a0_0 a0_1 : ByteArray) (l0_2 : List S28) (l0_3 : List S49) : Option (ByteArray × ByteArray × (List S28) × (List S49)) :=
 if GT.smE ⟨⟨a0_0, a0_1⟩, l0_2, l0_3⟩ = true then some (a0_0, a0_1, l0_2, l0_3) else none
theorem ents_twin.calls (a0_0 : ByteArray) (a0_1 : ByteArray) (A0_2 : Option Addr) (c0_2 : Nat) (l0_2 : List S28) (A0_3 : Option Addr) (c0_3 : Nat) (l0_3 : List S49) (r1 : ByteArray) (r2 : ByteArray) (r3 : List S28) (r4 : List S49) (w : World) (hr0_2 : Kd.C k28 w A0_2 l0_2.length l0_2) (hc0_2 : l0_2.length ≤ c0_2) (hr0_3 : Kd.C k49 w A0_3 l0_3.length l0_3) (hc0_3 : l0_3.length ≤ c0_3) (h : ents_twin.f a0_0 a0_1 l0_2 l0_3 = some (r1, r2, r3, r4)) :
  Calls Try.prog 90 #[.agg #[.string a0_0, .string a0_1, .slice A0_2 l0_2.length c0_2, .slice A0_3 l0_3.length c0_3]] w fun e w' => ∃ v2_ v3_ : Value, e = .returned (.agg #[.string r1, .string r2, v2_, v3_]) ∧ Kd.V k28 28 w' w.heap.size (fun k_ => w.heap.size ≤ k_) v2_ r3 ∧ Kd.V k49 49 w' w.heap.size (fun k_ => w.heap.size ≤ k_) v3_ r4 ∧ Below w.heap.size w w' := by
 unfold ents_twin.f at h
 by_cases hs : GT.smE ⟨⟨a0_0, a0_1⟩, l0_2, l0_3⟩ = true
 ·
  rw [if_pos hs] at h
  simp only [Option.some.injEq, Prod.mk.injEq] at h
  obtain ⟨rfl, rfl, rfl, rfl⟩ := h
  exact GT.twinE_sm ⟨⟨a0_0, a0_1⟩, l0_2, l0_3⟩ hs A0_2 c0_2 A0_3 c0_3 w hc0_2 hr0_2 hc0_3 hr0_3
 ·
  rw [if_neg hs] at h
  exact absurd h (by simp)

/-! ### ents_Find: function 29 -/
def ents_Find.f (l0 : List (S46)) (a1_0 : ByteArray) (a1_1 : ByteArray) : Option (ByteArray × ByteArray × (List (S28)) × (List (S49)) × Bool) := (ents_at.f l0 a1_0 a1_1).bind fun bt318 => (if bt318.2 = true then (if 0 ≤ bt318.1 then (if bt318.1 < (l0.length : Int) then ((ents_twin.f ((rd_T46 l0 bt318.1).f0.f0) ((rd_T46 l0 bt318.1).f0.f1) ((rd_T46 l0 bt318.1).f1) ((rd_T46 l0 bt318.1).f2)).bind fun bt321 => (some (bt321.1, bt321.2.1, bt321.2.2.1, bt321.2.2.2, true))) else (none)) else (none)) else (some ((⟨#[]⟩ : ByteArray), (⟨#[]⟩ : ByteArray), ([] : List (S28)), ([] : List (S49)), false)))
set_option maxHeartbeats 8000000 in
set_option maxRecDepth 100000 in
theorem ents_Find.calls (A0 : Option Addr) (c0 : Nat) (l0 : List (S46)) (a1_0 : ByteArray) (a1_1 : ByteArray) (r1 : ByteArray) (r2 : ByteArray) (r3 : List (S28)) (r4 : List (S49)) (r5 : Bool) (w : World) (hr0 : Kd.C k46 w A0 l0.length l0) (hc0 : l0.length ≤ c0) (h : ents_Find.f l0 a1_0 a1_1 = some (r1, r2, r3, r4, r5)) :
  Calls Try.prog 29 #[.slice A0 l0.length c0, .agg #[.string a1_0, .string a1_1]] w fun e w' => ∃ v2_ v3_ : Value, e = .returned (.tuple #[.agg #[.string r1, .string r2, v2_, v3_], .bool r5]) ∧ Kd.V k28 28 w' w.heap.size (fun k_ => (w.heap.size ≤ k_)) v2_ r3 ∧ Kd.V k49 49 w' w.heap.size (fun k_ => (w.heap.size ≤ k_)) v3_ r4 ∧ Below w.heap.size w w' := by
 have hu28 := Try.underlying28
 have hu46 := Try.underlying46
 have HR0 := aZ_ hr0
 have HC0 := aZ_ hc0
 clear hr0 hc0
 have HB := aZ_ (Below.refl w.heap.size w)
 have H : ((ents_at.f l0 a1_0 a1_1).bind fun bt318 => (if bt318.2 = true then (if 0 ≤ bt318.1 then (if bt318.1 < (l0.length : Int) then ((ents_twin.f ((rd_T46 l0 bt318.1).f0.f0) ((rd_T46 l0 bt318.1).f0.f1) ((rd_T46 l0 bt318.1).f1) ((rd_T46 l0 bt318.1).f2)).bind fun bt321 => (some (bt321.1, bt321.2.1, bt321.2.2.1, bt321.2.2.2, true))) else (none)) else (none)) else (some ((⟨#[]⟩ : ByteArray), (⟨#[]⟩ : ByteArray), ([] : List (S28)), ([] : List (S49)), false)))) = some (r1, r2, r3, r4, r5) := h
 clear h
 replace H := Option.bind_eq_some_iff.mp H
 obtain ⟨⟨t318, t319⟩, A30, H⟩ := H
 replace H : (if t319 = true then (if 0 ≤ t318 then (if t318 < (l0.length : Int) then ((ents_twin.f ((rd_T46 l0 t318).f0.f0) ((rd_T46 l0 t318).f0.f1) ((rd_T46 l0 t318).f1) ((rd_T46 l0 t318).f2)).bind fun bt321 => (some (bt321.1, bt321.2.1, bt321.2.2.1, bt321.2.2.2, true))) else (none)) else (none)) else (some ((⟨#[]⟩ : ByteArray), (⟨#[]⟩ : ByteArray), ([] : List (S28)), ([] : List (S49)), false))) = some (r1, r2, r3, r4, r5) := H
 have A3 := aZ_ A30
 clear A30
 by_cases c4 : t319 = true
 ·
  subst c4
  have H1 : (if 0 ≤ t318 then (if t318 < (l0.length : Int) then ((ents_twin.f ((rd_T46 l0 t318).f0.f0) ((rd_T46 l0 t318).f0.f1) ((rd_T46 l0 t318).f1) ((rd_T46 l0 t318).f2)).bind fun bt321 => (some (bt321.1, bt321.2.1, bt321.2.2.1, bt321.2.2.2, true))) else (none)) else (none)) = some (r1, r2, r3, r4, r5) := by rw [if_pos rfl] at H; exact H
  clear H
  have H := H1
  clear H1
  by_cases c5 : 0 ≤ t318
  ·
   rw [if_pos c5] at H
   have c5b0 : decide (0 ≤ t318) = true := decide_eq_true c5
   clear c5
   by_cases c6 : t318 < (l0.length : Int)
   ·
    rw [if_pos c6] at H
    have c6b0 : decide (t318 < (l0.length : Int)) = true := decide_eq_true c6
    clear c6
    replace H := Option.bind_eq_some_iff.mp H
    obtain ⟨⟨t321, t322, t323, t326⟩, A70, H⟩ := H
    replace H : (some (t321, t322, t323, t326, true)) = some (r1, r2, r3, r4, r5) := H
    have A7 := aZ_ A70
    clear A70
    simp only [Option.some.injEq, Prod.mk.injEq] at H
    obtain ⟨rfl, rfl, rfl, rfl, rfl⟩ := H
    go_enter Try.func29, Try.ntmps29
    go_wp2_with (first | ((with_reducible refine gate_dst (N := 3) rfl ?_); refine bxE 3 #[.string a1_0, .string a1_1] 28 ?_; intro gb316 hg w8 hbox hb; have BK316 := aZ_ (hbox); have GW316 := aZ_ ((by rw [hg]; exact (below_size (bl HB)) : w.heap.size ≤ gb316)); have GE316 := aZ_ ((by rw [hg]; exact (below_size (bl HB)) : w.heap.size ≤ gb316)); replace HB := aZ_ (below_step (bl HB) hb); clear hb hbox hg) | ((with_reducible refine gate_dst (N := 4) rfl ?_); refine bxE 4 #[.string (⟨#[]⟩ : ByteArray), .string (⟨#[]⟩ : ByteArray), .slice none 0 0, .slice none 0 0] 46 ?_; intro gb317 hg w9 hbox hb; have BK317 := aZ_ (hbox); have GW317 := aZ_ ((by rw [hg]; exact (below_size (bl1 HB GE316)) : w.heap.size ≤ gb317)); have GE317 := aZ_ ((by rw [hg]; exact (below_size (bl1 HB GE316)) : w.heap.size ≤ gb317)); replace HB := aZ_ (below_step (bl1 HB GE316) hb); have NB316_317 := aZ_ ((by rw [hg]; exact Nat.ne_of_lt (blk_lt (g := gb316) (o := .cells #[.string a1_0, .string a1_1] 28 (0, 0)) (bk BK316)) : gb316 ≠ gb317)); have NB317_316 := aZ_ ((by rw [hg]; exact Nat.ne_of_gt (blk_lt (g := gb316) (o := .cells #[.string a1_0, .string a1_1] 28 (0, 0)) (bk BK316)) : gb317 ≠ gb316)); replace BK316 := aZ_ (blk_below (g := gb316) (o := .cells #[.string a1_0, .string a1_1] 28 (0, 0)) (bk BK316) hb); clear hb hbox hg; have hnb10 := NB316_317.out; have hnc10 := NB317_316.out; obtain ⟨hcz11_0, hcz11_1, hfz11_0, hfz11_1⟩ := bc2 BK316) | ((with_reducible refine gate_callee (f := 89) rfl ?_); refine goesL_ (some 11) rfl rfl Try.func89 (by kernel_rfl) rfl #[.slice A0 l0.length c0, .agg #[.string a1_0, .string a1_1]] rfl gm_ ?_; (with_reducible refine (ents_at.calls _ _ l0 a1_0 a1_1 t318 true _ ?side1 ?side2 A3.out).mono ?_); (case side1 => exact kC (Kd.C_below HR0.out HB.out)); (case side2 => exact HC0.out); rintro e w12 ⟨rfl, hb⟩; refine ⟨_, rfl, ?_⟩; replace BK316 := aZ_ (blk_below (g := gb316) (o := .cells #[.string a1_0, .string a1_1] 28 (0, 0)) (bk BK316) hb); replace BK317 := aZ_ (blk_below (g := gb317) (o := .cells #[.string (⟨#[]⟩ : ByteArray), .string (⟨#[]⟩ : ByteArray), .slice none 0 0, .slice none 0 0] 46 (0, 0)) (bk BK317) hb); replace HB := aZ_ (below_step (bl2 HB GE316 GE317) hb); (try clear hb); (try clear hb2); (try clear hk); (try clear hi); have p320 : 0 ≤ (t318 : Int) := of_decide_eq_true asm_; have q320 : t318 < (l0.length : Int) := of_decide_eq_true asm_; obtain ⟨ad320, A320_2, c320_2, A320_3, c320_3, e320, hx320_0, hx320_1, hx320_2, hx320_3, hl320_2, hi320_2, hl320_3, hi320_3⟩ := at_T46 HR0.out t318 p320 q320; cases e320; replace hx320_0 := (hbc HB.out hx320_0 :); replace hx320_1 := (hbc HB.out hx320_1 :); replace hx320_2 := (hbc HB.out hx320_2 :); replace hx320_3 := (hbc HB.out hx320_3 :); have HR320_2 := aZ_ hi320_2; have HC320_2 := aZ_ hl320_2; clear hi320_2 hl320_2; have HR320_3 := aZ_ hi320_3; have HC320_3 := aZ_ hl320_3; clear hi320_3 hl320_3; replace p320 := eq_true p320; replace q320 := eq_true q320) | ((with_reducible refine gate_callee (f := 90) rfl ?_); refine goesL_ (some 21) rfl rfl Try.func90 (by kernel_rfl) rfl #[.agg #[.string ((rd_T46 l0 t318).f0.f0), .string ((rd_T46 l0 t318).f0.f1), .slice A320_2 ((rd_T46 l0 t318).f1).length c320_2, .slice A320_3 ((rd_T46 l0 t318).f2).length c320_3]] rfl gm_ ?_; (with_reducible refine (ents_twin.calls ((rd_T46 l0 t318).f0.f0) ((rd_T46 l0 t318).f0.f1) _ _ ((rd_T46 l0 t318).f1) _ _ ((rd_T46 l0 t318).f2) t321 t322 t323 t326 _ ?side1 ?side2 ?side3 ?side4 A7.out).mono ?_); (case side1 => exact kC (Kd.C_below HR320_2.out HB.out)); (case side2 => exact HC320_2.out); (case side3 => exact kC (Kd.C_below HR320_3.out HB.out)); (case side4 => exact HC320_3.out); rintro e w13 ⟨v324, v327, rfl, ho0, ho1, hb⟩; refine ⟨_, rfl, ?_⟩; have HO325 := aZ_ (Kd.V_lower (Kd.V_mono (ok' := fun k_ => (w.heap.size ≤ k_) ∧ k_ ≠ gb316 ∧ k_ ≠ gb317) ho0 (fun k_ hk_ => ⟨(Nat.le_trans (below_size (bl2 HB GE316 GE317)) hk_), (Kd.freshB (g := gb316) (o := .cells #[.string a1_0, .string a1_1] 28 (0, 0)) (bk BK316) k_ hk_), (Kd.freshB (g := gb317) (o := .cells #[.string (⟨#[]⟩ : ByteArray), .string (⟨#[]⟩ : ByteArray), .slice none 0 0, .slice none 0 0] 46 (0, 0)) (bk BK317) k_ hk_)⟩)) (below_size (bl2 HB GE316 GE317))); have HO328 := aZ_ (Kd.V_lower (Kd.V_mono (ok' := fun k_ => (w.heap.size ≤ k_) ∧ k_ ≠ gb316 ∧ k_ ≠ gb317) ho1 (fun k_ hk_ => ⟨(Nat.le_trans (below_size (bl2 HB GE316 GE317)) hk_), (Kd.freshB (g := gb316) (o := .cells #[.string a1_0, .string a1_1] 28 (0, 0)) (bk BK316) k_ hk_), (Kd.freshB (g := gb317) (o := .cells #[.string (⟨#[]⟩ : ByteArray), .string (⟨#[]⟩ : ByteArray), .slice none 0 0, .slice none 0 0] 46 (0, 0)) (bk BK317) k_ hk_)⟩)) (below_size (bl2 HB GE316 GE317))); replace BK316 := aZ_ (blk_below (g := gb316) (o := .cells #[.string a1_0, .string a1_1] 28 (0, 0)) (bk BK316) hb); replace BK317 := aZ_ (blk_below (g := gb317) (o := .cells #[.string (⟨#[]⟩ : ByteArray), .string (⟨#[]⟩ : ByteArray), .slice none 0 0, .slice none 0 0] 46 (0, 0)) (bk BK317) hb); replace HB := aZ_ (below_step (bl2 HB GE316 GE317) hb); (try clear hb); (try clear hb2); (try clear hk); (try clear hi); (try clear ho0); (try clear ho1); obtain ⟨hcz14_0, hcz14_1, hcz14_2, hcz14_3, hfz14_0, hfz14_1, hfz14_2, hfz14_3⟩ := bc4 BK317; obtain ⟨Ao15, co15, eo15⟩ := Kd.V_slice HO325.out; subst eo15; obtain ⟨Ao16, co16, eo16⟩ := Kd.V_slice HO328.out; subst eo16))
    refine bodyPost_ret (results_ct rfl _ _ gb317 46 #[.string t321, .string t322, .slice Ao15 t323.length co15, .slice Ao16 t326.length co16] (0, 0) _ rfl (by (with_reducible repeat (first | refine blk_drewN ?_ _ | refine blk_drew ?_ | refine blk_alloc ?_ _)); refine blk_put (cs := #[.string t321, .string t322, .slice Ao15 t323.length co15, .slice none 0 0]) ?_ 3 _ rfl; (with_reducible repeat (first | refine blk_drewN ?_ _ | refine blk_drew ?_ | refine blk_alloc ?_ _)); refine blk_put (cs := #[.string t321, .string t322, .slice none 0 0, .slice none 0 0]) ?_ 2 _ rfl; (with_reducible repeat (first | refine blk_drewN ?_ _ | refine blk_drew ?_ | refine blk_alloc ?_ _)); refine blk_put (cs := #[.string t321, .string (⟨#[]⟩ : ByteArray), .slice none 0 0, .slice none 0 0]) ?_ 1 _ rfl; (with_reducible repeat (first | refine blk_drewN ?_ _ | refine blk_drew ?_ | refine blk_alloc ?_ _)); refine blk_put (cs := #[.string (⟨#[]⟩ : ByteArray), .string (⟨#[]⟩ : ByteArray), .slice none 0 0, .slice none 0 0]) ?_ 0 _ rfl; (with_reducible repeat (first | refine blk_drewN ?_ _ | refine blk_drew ?_ | refine blk_alloc ?_ _)); exact BK317.out) Try.underlying46 rfl (by kernel_rfl)) rfl ?_
    exact ⟨_, _, by first | rfl | (simp [errW_none, errW_some] <;> rfl) | (simp [*, errW_none, errW_some] <;> rfl), by (with_reducible repeat (first | apply Kd.V_alloc | apply Kd.V_drewN | apply Kd.V_drew)); exact Kd.V_mono (Kd.V_far (p := ⟨gb317, 3, none⟩) (Kd.V_far (p := ⟨gb317, 2, none⟩) (Kd.V_far (p := ⟨gb317, 1, none⟩) (Kd.V_far (p := ⟨gb317, 0, none⟩) (Kd.V_mono HO325.out (fun k_ hk => (⟨hk, hk.2.2⟩ : _ ∧ k_ ≠ gb317))) (fun _ hk => hk.2) (.string t321)) (fun _ hk => hk.2) (.string t322)) (fun _ hk => hk.2) (.slice Ao15 t323.length co15)) (fun _ hk => hk.2) (.slice Ao16 t326.length co16)) (fun _ hk => hk.1.1), by (with_reducible repeat (first | apply Kd.V_alloc | apply Kd.V_drewN | apply Kd.V_drew)); exact Kd.V_mono (Kd.V_far (p := ⟨gb317, 3, none⟩) (Kd.V_far (p := ⟨gb317, 2, none⟩) (Kd.V_far (p := ⟨gb317, 1, none⟩) (Kd.V_far (p := ⟨gb317, 0, none⟩) (Kd.V_mono HO328.out (fun k_ hk => (⟨hk, hk.2.2⟩ : _ ∧ k_ ≠ gb317))) (fun _ hk => hk.2) (.string t321)) (fun _ hk => hk.2) (.string t322)) (fun _ hk => hk.2) (.slice Ao15 t323.length co15)) (fun _ hk => hk.2) (.slice Ao16 t326.length co16)) (fun _ hk => hk.1.1), bl2 HB GE316 GE317⟩
   ·
    rw [if_neg c6] at H
    exact absurd H (by simp)
  ·
   rw [if_neg c5] at H
   exact absurd H (by simp)
 ·
  replace c4 := Bool.eq_false_iff.mpr c4
  subst c4
  have H1 : (some ((⟨#[]⟩ : ByteArray), (⟨#[]⟩ : ByteArray), ([] : List (S28)), ([] : List (S49)), false)) = some (r1, r2, r3, r4, r5) := by rw [if_neg (show ¬ (false = true) by decide)] at H; exact H
  clear H
  have H := H1
  clear H1
  simp only [Option.some.injEq, Prod.mk.injEq] at H
  obtain ⟨rfl, rfl, rfl, rfl, rfl⟩ := H
  go_enter Try.func29, Try.ntmps29
  go_wp2_with (first | ((with_reducible refine gate_dst (N := 3) rfl ?_); refine bxE 3 #[.string a1_0, .string a1_1] 28 ?_; intro gb316 hg w17 hbox hb; have BK316 := aZ_ (hbox); have GW316 := aZ_ ((by rw [hg]; exact (below_size (bl HB)) : w.heap.size ≤ gb316)); have GE316 := aZ_ ((by rw [hg]; exact (below_size (bl HB)) : w.heap.size ≤ gb316)); replace HB := aZ_ (below_step (bl HB) hb); clear hb hbox hg) | ((with_reducible refine gate_dst (N := 4) rfl ?_); refine bxE 4 #[.string (⟨#[]⟩ : ByteArray), .string (⟨#[]⟩ : ByteArray), .slice none 0 0, .slice none 0 0] 46 ?_; intro gb317 hg w18 hbox hb; have BK317 := aZ_ (hbox); have GW317 := aZ_ ((by rw [hg]; exact (below_size (bl1 HB GE316)) : w.heap.size ≤ gb317)); have GE317 := aZ_ ((by rw [hg]; exact (below_size (bl1 HB GE316)) : w.heap.size ≤ gb317)); replace HB := aZ_ (below_step (bl1 HB GE316) hb); have NB316_317 := aZ_ ((by rw [hg]; exact Nat.ne_of_lt (blk_lt (g := gb316) (o := .cells #[.string a1_0, .string a1_1] 28 (0, 0)) (bk BK316)) : gb316 ≠ gb317)); have NB317_316 := aZ_ ((by rw [hg]; exact Nat.ne_of_gt (blk_lt (g := gb316) (o := .cells #[.string a1_0, .string a1_1] 28 (0, 0)) (bk BK316)) : gb317 ≠ gb316)); replace BK316 := aZ_ (blk_below (g := gb316) (o := .cells #[.string a1_0, .string a1_1] 28 (0, 0)) (bk BK316) hb); clear hb hbox hg; have hnb19 := NB316_317.out; have hnc19 := NB317_316.out; obtain ⟨hcz20_0, hcz20_1, hfz20_0, hfz20_1⟩ := bc2 BK316) | ((with_reducible refine gate_callee (f := 89) rfl ?_); refine goesL_ (some 11) rfl rfl Try.func89 (by kernel_rfl) rfl #[.slice A0 l0.length c0, .agg #[.string a1_0, .string a1_1]] rfl gm_ ?_; (with_reducible refine (ents_at.calls _ _ l0 a1_0 a1_1 t318 false _ ?side1 ?side2 A3.out).mono ?_); (case side1 => exact kC (Kd.C_below HR0.out HB.out)); (case side2 => exact HC0.out); rintro e w21 ⟨rfl, hb⟩; refine ⟨_, rfl, ?_⟩; replace BK316 := aZ_ (blk_below (g := gb316) (o := .cells #[.string a1_0, .string a1_1] 28 (0, 0)) (bk BK316) hb); replace BK317 := aZ_ (blk_below (g := gb317) (o := .cells #[.string (⟨#[]⟩ : ByteArray), .string (⟨#[]⟩ : ByteArray), .slice none 0 0, .slice none 0 0] 46 (0, 0)) (bk BK317) hb); replace HB := aZ_ (below_step (bl2 HB GE316 GE317) hb); (try clear hb); (try clear hb2); (try clear hk); (try clear hi); obtain ⟨hcz22_0, hcz22_1, hcz22_2, hcz22_3, hfz22_0, hfz22_1, hfz22_2, hfz22_3⟩ := bc4 BK317))
  refine bodyPost_ret (results_ct rfl _ _ gb317 46 #[.string (⟨#[]⟩ : ByteArray), .string (⟨#[]⟩ : ByteArray), .slice none 0 0, .slice none 0 0] (0, 0) _ rfl (by (with_reducible repeat (first | refine blk_drewN ?_ _ | refine blk_drew ?_ | refine blk_alloc ?_ _)); refine blk_put (cs := #[.string (⟨#[]⟩ : ByteArray), .string (⟨#[]⟩ : ByteArray), .slice none 0 0, .slice none 0 0]) ?_ 3 _ rfl; (with_reducible repeat (first | refine blk_drewN ?_ _ | refine blk_drew ?_ | refine blk_alloc ?_ _)); refine blk_put (cs := #[.string (⟨#[]⟩ : ByteArray), .string (⟨#[]⟩ : ByteArray), .slice none 0 0, .slice none 0 0]) ?_ 2 _ rfl; (with_reducible repeat (first | refine blk_drewN ?_ _ | refine blk_drew ?_ | refine blk_alloc ?_ _)); refine blk_put (cs := #[.string (⟨#[]⟩ : ByteArray), .string (⟨#[]⟩ : ByteArray), .slice none 0 0, .slice none 0 0]) ?_ 1 _ rfl; (with_reducible repeat (first | refine blk_drewN ?_ _ | refine blk_drew ?_ | refine blk_alloc ?_ _)); refine blk_put (cs := #[.string (⟨#[]⟩ : ByteArray), .string (⟨#[]⟩ : ByteArray), .slice none 0 0, .slice none 0 0]) ?_ 0 _ rfl; (with_reducible repeat (first | refine blk_drewN ?_ _ | refine blk_drew ?_ | refine blk_alloc ?_ _)); exact BK317.out) Try.underlying46 rfl (by kernel_rfl)) rfl ?_
  exact ⟨_, _, by first | rfl | (simp [errW_none, errW_some] <;> rfl) | (simp [*, errW_none, errW_some] <;> rfl), (by first | exact Kd.V_nil _ _ _ _ _ | exact Kd.R_V (by first | exact Kd.R_nil _ _ _ _ _ | exact Kd.N_nil _ _ _ _ _ | exact Kd.V_nil _ _ _ _ _ | exact Kd.Q_nil _ _ _ _ _ | exact Kd.S_nil _ _ _ _ _)), (by first | exact Kd.V_nil _ _ _ _ _ | exact Kd.R_V (by first | exact Kd.R_nil _ _ _ _ _ | exact Kd.N_nil _ _ _ _ _ | exact Kd.V_nil _ _ _ _ _ | exact Kd.Q_nil _ _ _ _ _ | exact Kd.S_nil _ _ _ _ _)), bl2 HB GE316 GE317⟩

/-! ### api_Uid: function 92 -/
def api_Uid.l0 : Nat → List (S28) → List (S28) → Int → Int → Option (Bool)
 | 0, _, _, _, _ => none
 | k + 1, x0, x1, x12, x13 => if x13 < x12 then (if 0 ≤ x13 then (if x13 < (x0.length : Int) then (if x13 < (x1.length : Int) then (if (!((((rd_T28 x0 x13).f0).toList) == (((rd_T28 x1 x13).f0).toList)) || (!((((rd_T28 x0 x13).f1).toList) == (((rd_T28 x1 x13).f1).toList)))) = true then (some false) else (api_Uid.l0 k x0 x1 x12 (wrap64 (x13 + 1)))) else (none)) else (none)) else (none)) else (some true)
def api_Uid.f (k : Nat) (l0 : List (S28)) (l1 : List (S28)) : Option (Bool) := if (l0.length : Int) = (l1.length : Int) then (api_Uid.l0 k l0 l1 (l0.length : Int) 0) else (some false)
theorem api_Uid.mono_l : ∀ k, (∀ y0 y1 y2 y3, LeO (api_Uid.l0 k y0 y1 y2 y3) (api_Uid.l0 (k + 1) y0 y1 y2 y3))
 | 0 => fun _ _ _ _ r h => by simp [api_Uid.l0] at h
 | k + 1 => by
  have ih0 := api_Uid.mono_l k
  ·
   intro y0 y1 y2 y3
   unfold api_Uid.l0
   repeat' first
   | (with_reducible exact ih0 _ _ _ _)
   | (with_reducible exact LeO.refl _)
   | (with_reducible exact LeO.none _)
   | (with_reducible refine LeO.ite ?_ ?_)
   | (with_reducible refine LeO.bind ?_ (fun _ => ?_))
   | exact ih0 _ _ _ _
   | exact LeO.none _
   | refine LeO.ite ?_ ?_
   | refine LeO.bind ?_ (fun _ => ?_)
theorem api_Uid.mono : ∀ a0 a1 k, LeO (api_Uid.f k a0 a1) (api_Uid.f (k + 1) a0 a1) := by
 intro a0 a1 k
 have ih0 := api_Uid.mono_l k
 unfold api_Uid.f
 repeat' first
   | (with_reducible exact ih0 _ _ _ _)
   | (with_reducible exact LeO.refl _)
   | (with_reducible exact LeO.none _)
   | (with_reducible refine LeO.ite ?_ ?_)
   | (with_reducible refine LeO.bind ?_ (fun _ => ?_))
   | exact ih0 _ _ _ _
   | exact LeO.none _
   | refine LeO.ite ?_ ?_
   | refine LeO.bind ?_ (fun _ => ?_)
set_option maxHeartbeats 8000000 in
set_option maxRecDepth 100000 in
theorem api_Uid.calls (k : Nat) (A0 : Option Addr) (c0 : Nat) (l0 : List (S28)) (A1 : Option Addr) (c1 : Nat) (l1 : List (S28)) (r : Bool) (w : World) (hr0 : Kd.C k28 w A0 l0.length l0) (hc0 : l0.length ≤ c0) (hr1 : Kd.C k28 w A1 l1.length l1) (hc1 : l1.length ≤ c1) (h : api_Uid.f k l0 l1 = some r) :
  Calls Try.prog 92 #[.slice A0 l0.length c0, .slice A1 l1.length c1] w fun e w' => e = .returned (.bool r) ∧ Drawn0 w w' := by
 have hu28 := Try.underlying28
 have HR0 := aZ_ hr0
 have HC0 := aZ_ hc0
 clear hr0 hc0
 have HR1 := aZ_ hr1
 have HC1 := aZ_ hc1
 clear hr1 hc1
 have H : (if (l0.length : Int) = (l1.length : Int) then (api_Uid.l0 k l0 l1 (l0.length : Int) 0) else (some false)) = some r := h
 clear h
 by_cases c3 : (l0.length : Int) = (l1.length : Int)
 ·
  rw [if_pos c3] at H
  have c3b0 : ((l0.length : Int) == (l1.length : Int)) = true := beq_iff_eq.mpr c3
  have c3b1 : ((l0.length : Int) != (l1.length : Int)) = false := bne_eq_false_iff_eq.mpr c3
  have c3b2 : (l0.length == l1.length) = true := by first | simpa using c3 | (simp at c3 ⊢; omega)
  clear c3
  have H' := aZ_ H
  clear H
  go_enter Try.func92, Try.ntmps92
  go_wp2
  repeat (go_quiet (fail); try go_wp2)
  go_loopg [13] k (fun kq v13 w' => ∃ (x13_1 : Int), v13 = .int .i64 x13_1 ∧ Aside0 (api_Uid.l0 kq l0 l1 (l0.length : Int) x13_1 = some r) ∧ Aside0 (kq ≤ k) ∧ Drawn0 w w')
  case atStart => exact ⟨(0), rf_, H', ⟨Nat.le_refl _⟩, by repeat (first | exact Drawn0.refl _ | apply Drawn0.step)⟩
  case round =>
   clear H'
   try clear c1
   try clear p2
   try clear c3
   try clear c3b0
   try clear c3b1
   try clear c3b2
   obtain ⟨x13_1, rfl, HA, HK1, ⟨m1, rfl⟩⟩ := hrel
   cases gk with
   | zero => exact absurd HA.out (by simp [api_Uid.l0])
   | succ k1 =>
    have H := HA.out
    clear HA
    simp only [api_Uid.l0] at H
    by_cases c4 : x13_1 < (l0.length : Int)
    ·
     rw [if_pos c4] at H
     have c4b0 : decide (x13_1 < (l0.length : Int)) = true := decide_eq_true c4
     clear c4
     by_cases c5 : 0 ≤ x13_1
     ·
      rw [if_pos c5] at H
      have c5b0 : decide (0 ≤ x13_1) = true := decide_eq_true c5
      clear c5
      by_cases c6 : x13_1 < (l0.length : Int)
      ·
       rw [if_pos c6] at H
       have c6b0 : decide (x13_1 < (l0.length : Int)) = true := decide_eq_true c6
       clear c6
       by_cases c7 : x13_1 < (l1.length : Int)
       ·
        rw [if_pos c7] at H
        have c7b0 : decide (x13_1 < (l1.length : Int)) = true := decide_eq_true c7
        clear c7
        by_cases c8 : (!((((rd_T28 l0 x13_1).f0).toList) == (((rd_T28 l1 x13_1).f0).toList)) || (!((((rd_T28 l0 x13_1).f1).toList) == (((rd_T28 l1 x13_1).f1).toList)))) = true
        ·
         rw [if_pos c8] at H
         have c8b0 : (!((((rd_T28 l0 x13_1).f0).toList) == (((rd_T28 l1 x13_1).f0).toList)) || (!((((rd_T28 l0 x13_1).f1).toList) == (((rd_T28 l1 x13_1).f1).toList)))) = true := c8
         clear c8
         obtain rfl := Option.some.inj H
         have p329 : 0 ≤ (x13_1 : Int) := of_decide_eq_true asm_
         have q329 : x13_1 < (l0.length : Int) := of_decide_eq_true asm_
         obtain ⟨ad329, e329, hx329_0, hx329_1⟩ := at_T28 HR0.out x13_1 p329 q329
         cases e329
         replace p329 := eq_true p329
         replace q329 := eq_true q329
         have p330 : 0 ≤ (x13_1 : Int) := of_decide_eq_true asm_
         have q330 : x13_1 < (l1.length : Int) := of_decide_eq_true asm_
         obtain ⟨ad330, e330, hx330_0, hx330_1⟩ := at_T28 HR1.out x13_1 p330 q330
         cases e330
         replace p330 := eq_true p330
         replace q330 := eq_true q330
         go_wp2
         repeat (go_quiet (fail); try go_wp2)
         go_ret
         exact ⟨by first | rfl | (simp; done) | (simp [*]; done), by repeat (first | exact Drawn0.refl _ | apply Drawn0.step)⟩
        ·
         rw [if_neg c8] at H
         have c8b0 : (!((((rd_T28 l0 x13_1).f0).toList) == (((rd_T28 l1 x13_1).f0).toList)) || (!((((rd_T28 l0 x13_1).f1).toList) == (((rd_T28 l1 x13_1).f1).toList)))) = false := by simpa using c8
         clear c8
         have H' := aZ_ H
         clear H
         have p329 : 0 ≤ (x13_1 : Int) := of_decide_eq_true asm_
         have q329 : x13_1 < (l0.length : Int) := of_decide_eq_true asm_
         obtain ⟨ad329, e329, hx329_0, hx329_1⟩ := at_T28 HR0.out x13_1 p329 q329
         cases e329
         replace p329 := eq_true p329
         replace q329 := eq_true q329
         have p330 : 0 ≤ (x13_1 : Int) := of_decide_eq_true asm_
         have q330 : x13_1 < (l1.length : Int) := of_decide_eq_true asm_
         obtain ⟨ad330, e330, hx330_0, hx330_1⟩ := at_T28 HR1.out x13_1 p330 q330
         cases e330
         replace p330 := eq_true p330
         replace q330 := eq_true q330
         go_wp2
         repeat (go_quiet (fail); try go_wp2)
         go_roundg k1
         case measure => have := HK1.out; omega
         case rel => exact ⟨(wrap64 (x13_1 + 1)), rf_, H', ⟨by have := HK1.out; omega⟩, by repeat (first | exact Drawn0.refl _ | apply Drawn0.step)⟩
       ·
        rw [if_neg c7] at H
        exact absurd H (by simp)
      ·
       rw [if_neg c6] at H
       exact absurd H (by simp)
     ·
      rw [if_neg c5] at H
      exact absurd H (by simp)
    ·
     rw [if_neg c4] at H
     have c4b0 : decide (x13_1 < (l0.length : Int)) = false := decide_eq_false c4
     clear c4
     obtain rfl := Option.some.inj H
     go_wp2
     repeat (go_quiet (fail); try go_wp2)
     go_ret
     exact ⟨by first | rfl | (simp; done) | (simp [*]; done), by repeat (first | exact Drawn0.refl _ | apply Drawn0.step)⟩
 ·
  rw [if_neg c3] at H
  have c3b0 : ((l0.length : Int) == (l1.length : Int)) = false := beq_eq_false_iff_ne.mpr c3
  have c3b1 : ((l0.length : Int) != (l1.length : Int)) = true := bne_iff_ne.mpr c3
  have c3b2 : (l0.length == l1.length) = false := by first | simpa using c3 | (simp at c3 ⊢; omega)
  obtain rfl := Option.some.inj H
  go_enter Try.func92, Try.ntmps92
  go_wp2
  repeat (go_quiet (fail); try go_wp2)
  go_ret
  exact ⟨by first | rfl | (simp; done) | (simp [*]; done), by repeat (first | exact Drawn0.refl _ | apply Drawn0.step)⟩

end Go.Proofs.Ytfmghijmcgkpiaa.GO
