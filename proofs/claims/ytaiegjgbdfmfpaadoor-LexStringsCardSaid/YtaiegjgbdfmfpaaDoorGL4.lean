-- Written by wip/tools/gprint.py over the kit's printer.
import Derived.Test.YtaiegjgbdfmfpaaDoorGL0
import Derived.Test.YtaiegjgbdfmfpaaDoorGL1
import Derived.Test.YtaiegjgbdfmfpaaDoorGL3
namespace Go.Proofs.YtaiegjgbdfmfpaaDoor.GL
open Go.RowKit Go.Proofs.YtaiegjgbdfmfpaaDoorW.PrintWords Go.Proofs.YtaiegjgbdfmfpaaDoorW.PrintLast Go.Proofs.YtaiegjgbdfmfpaaDoor.HandL Go.Proofs.YtaiegjgbdfmfpaaDoorW.PrintMore
attribute [local go_sem] max2_int min2_int max_two min_two max_three min_three max_four min_four   -- for this text's walks alone
set_option linter.unusedVariables false
set_option linter.unusedSimpArgs false

/-! ### text_one: function 63 -/
mutual
def text_one.j0 : Nat → ByteArray → Int → Int → Bool → Option (Int × Int × Int)
  | 0, _, _, _, _ => none
  | k + 1, x0, x5, x6, x15 => if x15 = true then (some (0, 0, 12)) else (if x5 = 65533 then (text_one.j1 k x0 x5 x6 (decide (x6 ≤ 1))) else (text_one.j1 k x0 x5 x6 false))
def text_one.j1 : Nat → ByteArray → Int → Int → Bool → Option (Int × Int × Int)
  | 0, _, _, _, _ => none
  | k + 1, x0, x5, x6, x23 => if x23 = true then (some (0, 0, 11)) else (if x5 = 92 then (if 1 ≤ (x0.size : Int) then ((text_turned.f k (x0.extract 1 x0.size)).bind fun bt114 => (some (bt114.1, wrap64 (bt114.2.1 + 1), bt114.2.2))) else (none)) else (some (x5, x6, 0)))
end
def text_one.f (k : Nat) (a0 : ByteArray) : Option (Int × Int × Int) := (utf8_DecodeRuneInString.f a0).bind fun bt112 => (if a0.toList = ([] : List UInt8) then (text_one.j0 k a0 bt112.1 bt112.2 true) else (if 0 < (a0.size : Int) then (text_one.j0 k a0 bt112.1 bt112.2 (decide ((bt a0 0) < 32))) else (none)))
theorem text_one.mono_l : ∀ k, (∀ y0 y1 y2 y3, LeO (text_one.j0 k y0 y1 y2 y3) (text_one.j0 (k + 1) y0 y1 y2 y3)) ∧ (∀ y0 y1 y2 y3, LeO (text_one.j1 k y0 y1 y2 y3) (text_one.j1 (k + 1) y0 y1 y2 y3))
  | 0 => ⟨fun _ _ _ _ r h => by simp [text_one.j0] at h, fun _ _ _ _ r h => by simp [text_one.j1] at h⟩
  | k + 1 => by
    obtain ⟨ih0, ih1⟩ := text_one.mono_l k
    refine ⟨?_, ?_⟩
    · intro y0 y1 y2 y3
      unfold text_one.j0
      repeat' first
      | (with_reducible exact ih0 _ _ _ _)
      | (with_reducible exact ih1 _ _ _ _)
      | (with_reducible exact text_turned.mono _ _)
      | (with_reducible exact LeO.refl _)
      | (with_reducible exact LeO.none _)
      | (with_reducible refine LeO.ite ?_ ?_)
      | (with_reducible refine LeO.bind ?_ (fun _ => ?_))
      | exact ih0 _ _ _ _
      | exact ih1 _ _ _ _
      | exact text_turned.mono _ _
      | exact LeO.none _
      | refine LeO.ite ?_ ?_
      | refine LeO.bind ?_ (fun _ => ?_)
    · intro y0 y1 y2 y3
      unfold text_one.j1
      repeat' first
      | (with_reducible exact ih0 _ _ _ _)
      | (with_reducible exact ih1 _ _ _ _)
      | (with_reducible exact text_turned.mono _ _)
      | (with_reducible exact LeO.refl _)
      | (with_reducible exact LeO.none _)
      | (with_reducible refine LeO.ite ?_ ?_)
      | (with_reducible refine LeO.bind ?_ (fun _ => ?_))
      | exact ih0 _ _ _ _
      | exact ih1 _ _ _ _
      | exact text_turned.mono _ _
      | exact LeO.none _
      | refine LeO.ite ?_ ?_
      | refine LeO.bind ?_ (fun _ => ?_)
theorem text_one.mono : ∀ a0 k, LeO (text_one.f k a0) (text_one.f (k + 1) a0) := by
  intro a0 k
  obtain ⟨ih0, ih1⟩ := text_one.mono_l k
  unfold text_one.f
  repeat' first
      | (with_reducible exact ih0 _ _ _ _)
      | (with_reducible exact ih1 _ _ _ _)
      | (with_reducible exact text_turned.mono _ _)
      | (with_reducible exact LeO.refl _)
      | (with_reducible exact LeO.none _)
      | (with_reducible refine LeO.ite ?_ ?_)
      | (with_reducible refine LeO.bind ?_ (fun _ => ?_))
      | exact ih0 _ _ _ _
      | exact ih1 _ _ _ _
      | exact text_turned.mono _ _
      | exact LeO.none _
      | refine LeO.ite ?_ ?_
      | refine LeO.bind ?_ (fun _ => ?_)
set_option maxHeartbeats 8000000 in
set_option maxRecDepth 100000 in
theorem text_one.calls (k : Nat) (a0 : ByteArray) (r1 : Int) (r2 : Int) (r3 : Int) (w : World) (h : text_one.f k a0 = some (r1, r2, r3)) (hT : Tb w) :
    Calls Tryd.prog 63 #[.string a0] w fun e w' => e = .returned (.tuple #[.int .i32 r1, .int .i64 r2, .int .i64 r3]) ∧ Below w.heap.size w w' := by
  have HB := Aside0.mk (Below.refl w.heap.size w)
  have H : ((utf8_DecodeRuneInString.f a0).bind fun bt112 => (if a0.toList = ([] : List UInt8) then (text_one.j0 k a0 bt112.1 bt112.2 true) else (if 0 < (a0.size : Int) then (text_one.j0 k a0 bt112.1 bt112.2 (decide ((bt a0 0) < 32))) else (none)))) = some (r1, r2, r3) := h
  clear h
  have HT := Aside0.mk hT
  clear hT
  replace H := Option.bind_eq_some_iff.mp H
  obtain ⟨⟨t112, t113⟩, A20, H⟩ := H
  replace H : (if a0.toList = ([] : List UInt8) then (text_one.j0 k a0 t112 t113 true) else (if 0 < (a0.size : Int) then (text_one.j0 k a0 t112 t113 (decide ((bt a0 0) < 32))) else (none))) = some (r1, r2, r3) := H
  have A2 := Aside0.mk A20
  clear A20
  have HC3 := Aside0.mk H
  clear H
  go_enter Tryd.func63, Tryd.ntmps63
  go_upto_region 2 with (first | ((with_reducible refine gate_callee (f := 38) rfl ?_); refine goesL_ (some 12) rfl rfl Tryd.func38 (by kernel_rfl) rfl #[.string a0] rfl (by (try simp only [List.map_toArray, List.map_cons, List.map_nil]); first | done | rfl | (simp only [List.length_drop, List.length_take]; rfl)) ?_; (with_reducible refine (utf8_DecodeRuneInString.calls a0 t112 t113 _ A2.out ?side1).mono ?_); (case side1 => exact Tb.below HT.out (by repeat (first | (with_reducible first | exact HB.out | apply below_alloc | apply pw_below_drewN | apply below_drew1) | exact HB.out))); rintro e w4 ⟨rfl, hb⟩; refine ⟨_, rfl, ?_⟩; have n0_ := Aside0.mk (below_step (by repeat (first | (with_reducible first | exact HB.out | apply below_alloc | apply pw_below_drewN | apply below_drew1) | exact HB.out)) hb); clear HB; have HB := n0_; clear n0_; (try clear hb); (try clear hb2); (try clear hk); (try clear hi)))
  (try simp only [Act.put, List.setIfInBounds_toArray, List.set_cons_zero, List.set_cons_succ])
  go_cut [15] (fun v15 wc => ∃ (kq : Nat) (x15_2 : Bool), v15 = .bool x15_2 ∧ Aside0 (text_one.j0 kq a0 t112 t113 x15_2 = some (r1, r2, r3)) ∧ Aside0 (kq ≤ k) ∧ Aside0 (Below w.heap.size w wc))
  case first =>
    have H := HC3.out
    clear HC3
    by_cases c5 : a0.toList = ([] : List UInt8)
    · rw [if_pos c5] at H
      have c5b0 : (a0.toList == ([] : List UInt8)) = true := beq_iff_eq.mpr c5
      have c5b1 : (a0.toList != ([] : List UInt8)) = false := bne_eq_false_iff_eq.mpr c5
      clear c5
      (first | rw [c5b0] | (simp only [i64_w, i32_w]; rw [c5b0]) | skip)
      have H' := Aside0.mk H
      clear H
      go_wp2
      go_meet
      case rel => exact ⟨_, (true), (by first | rfl | (simp; done) | (simp [*]; done)), H', ⟨by first | omega | exact Nat.le_refl _⟩, ⟨by repeat (first | (with_reducible first | exact HB.out | apply below_alloc | apply pw_below_drewN | apply below_drew1) | exact HB.out)⟩⟩
    · rw [if_neg c5] at H
      have c5b0 : (a0.toList == ([] : List UInt8)) = false := beq_eq_false_iff_ne.mpr c5
      have c5b1 : (a0.toList != ([] : List UInt8)) = true := bne_iff_ne.mpr c5
      (first | rw [c5b0] | (simp only [i64_w, i32_w]; rw [c5b0]) | skip)
      by_cases c6 : 0 < (a0.size : Int)
      · rw [if_pos c6] at H
        have c6b0 : decide (0 < (a0.size : Int)) = true := decide_eq_true c6
        have c6b1 : decide (0 < a0.size) = true := decide_eq_true (by omega)
        clear c6
        have H' := Aside0.mk H
        clear H
        have p7 : 0 ≤ (0 : Int) := (by omega)
        have q7 : 0 < a0.size := (by have : (0 : Int) < (a0.size : Int) := of_decide_eq_true (by first | (with_reducible assumption) | assumption); omega)
        have hx7 : ∀ h : 0 < a0.size, ((a0[0]'h).toNat : Int) = bt a0 0 := bt_at a0 0
        clear p7
        have qi7 : (0 < (a0.size : Int)) = True := eq_true (of_decide_eq_true (by first | (with_reducible assumption) | assumption))
        replace q7 := eq_true q7
        go_wp2
        go_meet
        case rel => exact ⟨_, (decide ((bt a0 0) < 32)), (by first | rfl | (simp; done) | (simp [*]; done)), H', ⟨by first | omega | exact Nat.le_refl _⟩, ⟨by repeat (first | (with_reducible first | exact HB.out | apply below_alloc | apply pw_below_drewN | apply below_drew1) | exact HB.out)⟩⟩
      · rw [if_neg c6] at H
        exact absurd H (by simp)
  case rest =>
    clear HC3
    try clear p2
    try clear c3
    try clear c5
    try clear c5b0
    try clear c5b1
    try clear c6
    try clear c6b0
    try clear c6b1
    try clear p7
    try clear q7
    try clear hx7
    try clear qi7
    try clear p7
    try clear q7
    obtain ⟨kq, x15_2, rfl, HA, HJ2, HB⟩ := hcut
    cases kq with
    | zero => exact absurd HA.out (by simp [text_one.j0])
    | succ kj2 =>
      have H := HA.out
      clear HA
      simp only [text_one.j0] at H
      by_cases c8 : x15_2 = true
      · subst c8
        have H1 : (some (0, 0, 12)) = some (r1, r2, r3) := by rw [if_pos rfl] at H; exact H
        clear H
        have H := H1
        clear H1
        simp only [Option.some.injEq, Prod.mk.injEq] at H
        obtain ⟨rfl, rfl, rfl⟩ := H
        go_wp2
        go_ret3
        exact ⟨by first | rfl | (simp [errW_none, errW_some] <;> rfl) | (simp [*, errW_none, errW_some] <;> rfl), by repeat (first | (with_reducible first | exact HB.out | apply below_alloc | apply pw_below_drewN | apply below_drew1) | exact HB.out)⟩
      · replace c8 := Bool.eq_false_iff.mpr c8
        subst c8
        have H1 : (if t112 = 65533 then (text_one.j1 kj2 a0 t112 t113 (decide (t113 ≤ 1))) else (text_one.j1 kj2 a0 t112 t113 false)) = some (r1, r2, r3) := by rw [if_neg (show ¬ (false = true) by decide)] at H; exact H
        clear H
        have H := H1
        clear H1
        have HC9 := Aside0.mk H
        clear H
        go_upto_region 4 with (fail)
        go_cut [23] (fun v23 wc => ∃ (kq : Nat) (x23_8 : Bool), v23 = .bool x23_8 ∧ Aside0 (text_one.j1 kq a0 t112 t113 x23_8 = some (r1, r2, r3)) ∧ Aside0 (kq ≤ kj2) ∧ Aside0 (Below w.heap.size w wc))
        case first =>
          have H := HC9.out
          clear HC9
          by_cases c10 : t112 = 65533
          · rw [if_pos c10] at H
            have c10b0 : (t112 == 65533) = true := beq_iff_eq.mpr c10
            have c10b1 : (t112 != 65533) = false := bne_eq_false_iff_eq.mpr c10
            clear c10
            (first | rw [c10b0] | (simp only [i64_w, i32_w]; rw [c10b0]) | skip)
            have H' := Aside0.mk H
            clear H
            go_wp2
            go_meet
            case rel => exact ⟨_, (decide (t113 ≤ 1)), (by first | rfl | (simp; done) | (simp [*]; done)), H', ⟨by have := HJ2.out; first | omega | exact Nat.le_refl _⟩, ⟨by repeat (first | (with_reducible first | exact HB.out | apply below_alloc | apply pw_below_drewN | apply below_drew1) | exact HB.out)⟩⟩
          · rw [if_neg c10] at H
            have c10b0 : (t112 == 65533) = false := beq_eq_false_iff_ne.mpr c10
            have c10b1 : (t112 != 65533) = true := bne_iff_ne.mpr c10
            (first | rw [c10b0] | (simp only [i64_w, i32_w]; rw [c10b0]) | skip)
            have H' := Aside0.mk H
            clear H
            go_wp2
            go_meet
            case rel => exact ⟨_, (false), (by first | rfl | (simp; done) | (simp [*]; done)), H', ⟨by have := HJ2.out; first | omega | exact Nat.le_refl _⟩, ⟨by repeat (first | (with_reducible first | exact HB.out | apply below_alloc | apply pw_below_drewN | apply below_drew1) | exact HB.out)⟩⟩
        case rest =>
          clear HC9
          try clear c1
          try clear p2
          try clear c3
          try clear c5
          try clear c5b0
          try clear c5b1
          try clear c6
          try clear c6b0
          try clear c6b1
          try clear p7
          try clear q7
          try clear hx7
          try clear qi7
          try clear c8
          try clear c10
          try clear c10b0
          try clear c10b1
          try clear p2
          try clear p7
          try clear q7
          obtain ⟨kq, x23_8, rfl, HA, HJ8, HB⟩ := hcut
          cases kq with
          | zero => exact absurd HA.out (by simp [text_one.j1])
          | succ kj8 =>
            have H := HA.out
            clear HA
            simp only [text_one.j1] at H
            by_cases c11 : x23_8 = true
            · subst c11
              have H1 : (some (0, 0, 11)) = some (r1, r2, r3) := by rw [if_pos rfl] at H; exact H
              clear H
              have H := H1
              clear H1
              simp only [Option.some.injEq, Prod.mk.injEq] at H
              obtain ⟨rfl, rfl, rfl⟩ := H
              go_wp2
              go_ret3
              exact ⟨by first | rfl | (simp [errW_none, errW_some] <;> rfl) | (simp [*, errW_none, errW_some] <;> rfl), by repeat (first | (with_reducible first | exact HB.out | apply below_alloc | apply pw_below_drewN | apply below_drew1) | exact HB.out)⟩
            · replace c11 := Bool.eq_false_iff.mpr c11
              subst c11
              have H1 : (if t112 = 92 then (if 1 ≤ (a0.size : Int) then ((text_turned.f kj8 (a0.extract 1 a0.size)).bind fun bt114 => (some (bt114.1, wrap64 (bt114.2.1 + 1), bt114.2.2))) else (none)) else (some (t112, t113, 0))) = some (r1, r2, r3) := by rw [if_neg (show ¬ (false = true) by decide)] at H; exact H
              clear H
              have H := H1
              clear H1
              by_cases c12 : t112 = 92
              · rw [if_pos c12] at H
                have c12b0 : (t112 == 92) = true := beq_iff_eq.mpr c12
                have c12b1 : (t112 != 92) = false := bne_eq_false_iff_eq.mpr c12
                clear c12
                by_cases c13 : 1 ≤ (a0.size : Int)
                · rw [if_pos c13] at H
                  have c13b0 := eq_true c13
                  have c13b1 : decide (1 ≤ (a0.size : Int)) = true := decide_eq_true c13
                  clear c13
                  replace H := Option.bind_eq_some_iff.mp H
                  obtain ⟨⟨t114, t115, t116⟩, A140, H⟩ := H
                  replace H : (some (t114, wrap64 (t115 + 1), t116)) = some (r1, r2, r3) := H
                  have A14 := Aside0.mk A140
                  clear A140
                  simp only [Option.some.injEq, Prod.mk.injEq] at H
                  obtain ⟨rfl, rfl, rfl⟩ := H
                  go_wp2_with (first | ((with_reducible refine gate_callee (f := 69) rfl ?_); refine goesL_ (some 36) rfl rfl Tryd.func69 (by kernel_rfl) rfl #[.string (a0.extract 1 a0.size)] rfl (by (try simp only [List.map_toArray, List.map_cons, List.map_nil]); first | done | rfl | (simp only [List.length_drop, List.length_take]; rfl)) ?_; (with_reducible refine (text_turned.calls kj8 (a0.extract 1 a0.size) t114 t115 t116 _ A14.out).mono ?_); rintro e w' ⟨rfl, ⟨nd, rfl⟩⟩; refine ⟨_, rfl, ?_⟩))
                  go_ret3
                  exact ⟨by first | rfl | (simp [errW_none, errW_some] <;> rfl) | (simp [*, errW_none, errW_some] <;> rfl), by repeat (first | (with_reducible first | exact HB.out | apply below_alloc | apply pw_below_drewN | apply below_drew1) | exact HB.out)⟩
                · rw [if_neg c13] at H
                  exact absurd H (by simp)
              · rw [if_neg c12] at H
                have c12b0 : (t112 == 92) = false := beq_eq_false_iff_ne.mpr c12
                have c12b1 : (t112 != 92) = true := bne_iff_ne.mpr c12
                simp only [Option.some.injEq, Prod.mk.injEq] at H
                obtain ⟨rfl, rfl, rfl⟩ := H
                go_wp2
                go_ret3
                exact ⟨by first | rfl | (simp [errW_none, errW_some] <;> rfl) | (simp [*, errW_none, errW_some] <;> rfl), by repeat (first | (with_reducible first | exact HB.out | apply below_alloc | apply pw_below_drewN | apply below_drew1) | exact HB.out)⟩

/-! ### utf8_appendRuneNonASCII: function 70, given -/
def utf8_appendRuneNonASCII.f (l0 : List Int) (a1 : Int) : Option (List Int) := if 127 < a1 % 4294967296 ∧ l0.length + 4 ≤ 140737488355328 ∧ -2147483648 ≤ a1 ∧ a1 ≤ 2147483647 then some (l0 ++ Lib.encodeRuneZ a1) else none
theorem utf8_appendRuneNonASCII.info : (Tryd.prog.info? 5).map (fun i => (i.zero, i.size, i.bytes)) = some (some (.int .u8 0), 1, 1) := by kernel_rfl
theorem utf8_appendRuneNonASCII.lit (W : World) (l : List Int) (hl : l.length ≤ 4) :
    ReadsRow (fun (x : Int) cs => cs = [.int .u8 x]) 1 (W.alloc (.cells (l.map (Value.int .u8)).toArray 5)) (some ⟨W.heap.size, 0, none⟩) l.length l := by
  refine ⟨rfl, by omega, fun _ => ⟨_, rfl, fun j p hj => ⟨[.int .u8 p], rfl, rfl, fun i u hi => ?_⟩⟩⟩
  have hi0 : i = 0 := by
    cases i with
    | zero => rfl
    | succ i => simp at hi
  subst hi0
  have hu : u = Value.int .u8 p := by simpa using hi.symm
  subst hu
  have hA : (W.alloc (.cells (l.map (Value.int .u8)).toArray 5)).heap[W.heap.size]? = some (.cells (l.map (Value.int .u8)).toArray 5) := by
    show (W.heap.push _)[W.heap.size]? = _
    exact Array.getElem?_push_size
  have hb : ((⟨W.heap.size, 0, none⟩ : Addr).add (j * 1 + 0)) = ⟨W.heap.size, j, none⟩ := by
    by_cases h0 : j = 0
    · subst h0; rfl
    · simp [Addr.add, h0]
  rw [hb]
  unfold World.cell?
  rw [hA]
  simp [hj]
theorem utf8_appendRuneNonASCII.done (P0_ : Nat → Prop) (u9000_ : Value) (l0 l : List Int) (w0 w w1 : World) (o : Obj) (v1 : Value) (hB : Below w0.heap.size w0 w)
    (hbl : ∀ k, u9000_.ownBlock = some k → P0_ k)
    (hr : Kd.R (Kd.int .u8) 5 w1 w0.heap.size (fun k_ => P0_ k_ ∨ w.heap.size ≤ k_) v1 l) (hb : Below w0.heap.size w0 w1) (hg : (w.alloc o).grownBy w1 u9000_.ownBlock) :
    ∃ v0_ : Value, Ending.returned v1 = .returned v0_ ∧ Kd.R (Kd.int .u8) 5 w1 w0.heap.size (fun k_ => (P0_ k_ ∨ w.heap.size ≤ k_)) v0_ l ∧ Below w0.heap.size w0 w1 ∧ Kept w w1 (fun k_ => P0_ k_) :=
  ⟨v1, rfl, hr, hb, Kept.of_grown (S := fun k_ => P0_ k_) hg (Kept.alloc (Kept.refl w _) o) (fun k hk => .inl (hbl k hk))⟩
set_option maxHeartbeats 4000000 in
set_option maxRecDepth 100000 in
theorem utf8_appendRuneNonASCII.two (P0_ : Nat → Prop) (u9000_ : Value) (l0 : List Int) (a1 : Int) (h0 : 128 ≤ a1) (h1 : a1 ≤ 2047) (w0 w : World) (hB : Below w0.heap.size w0 w) (ho0 : Kd.R (Kd.int .u8) 5 w w0.heap.size P0_ u9000_ l0) (hl : l0.length + 4 ≤ 140737488355328) :
    Calls Tryd.prog 70 #[u9000_, .int .i32 a1] w fun e w' => ∃ v0_ : Value, e = .returned v0_ ∧ Kd.R (Kd.int .u8) 5 w' w0.heap.size (fun k_ => (P0_ k_ ∨ w.heap.size ≤ k_)) v0_ (l0 ++ [192 + a1 / 64, 128 + a1 % 64]) ∧ Below w0.heap.size w0 w' ∧ Kept w w' (fun k_ => P0_ k_) := by
  have HO := Kd.R_bound ho0
  have HF := utf8_appendRuneNonASCII.lit w [192 + a1 / 64, 128 + a1 % 64] (by simp)
  simp only [List.map_cons, List.map_nil] at HF
  go_enter Tryd.func70, Tryd.ntmps70
  go_wp2_with (at_builtin; refine Kd.R_append_rows (Kd.int .u8) (w0 := w0) w0.heap.size rfl _ _ 58 5 (.int .u8 0) 1 rfl Tryd.underlying58 utf8_appendRuneNonASCII.info rfl (by decide) (by omega) u9000_ l0 [192 + a1 / 64, 128 + a1 % 64] _ 2 2 (fun k_ => P0_ k_ ∨ w.heap.size ≤ k_) (fun _ => False) rfl rfl ?aO HF (fun _ _ h => h) (fun _ h => h.elim) ?aF ?aB ?aS ?aL ?_)
  case aO => exact Kd.R_alloc (Kd.R_mono ho0 (fun _ h => .inl h)) _
  case aF => exact fun k hk => .inr (by first | omega | (simp at hk; omega))
  case aB => exact below_alloc hB _
  case aS => have := hB.size; first | omega | (simp; omega)
  case aL => first | omega | (simp; omega)
  intro v1 w1 hr1 hb1 hg1 _
  go_wp2
  go_ret
  exact utf8_appendRuneNonASCII.done P0_ u9000_ l0 _ w0 w w1 _ v1 hB ho0.1 hr1 hb1 hg1
set_option maxHeartbeats 4000000 in
set_option maxRecDepth 100000 in
theorem utf8_appendRuneNonASCII.lo (P0_ : Nat → Prop) (u9000_ : Value) (l0 : List Int) (a1 : Int) (h0 : 2048 ≤ a1) (h1 : a1 < 55296) (w0 w : World) (hB : Below w0.heap.size w0 w) (ho0 : Kd.R (Kd.int .u8) 5 w w0.heap.size P0_ u9000_ l0) (hl : l0.length + 4 ≤ 140737488355328) :
    Calls Tryd.prog 70 #[u9000_, .int .i32 a1] w fun e w' => ∃ v0_ : Value, e = .returned v0_ ∧ Kd.R (Kd.int .u8) 5 w' w0.heap.size (fun k_ => (P0_ k_ ∨ w.heap.size ≤ k_)) v0_ (l0 ++ [224 + a1 / 4096, 128 + a1 / 64 % 64, 128 + a1 % 64]) ∧ Below w0.heap.size w0 w' ∧ Kept w w' (fun k_ => P0_ k_) := by
  have HO := Kd.R_bound ho0
  have HF := utf8_appendRuneNonASCII.lit w [224 + a1 / 4096, 128 + a1 / 64 % 64, 128 + a1 % 64] (by simp)
  simp only [List.map_cons, List.map_nil] at HF
  go_enter Tryd.func70, Tryd.ntmps70
  go_wp2_with (at_builtin; refine Kd.R_append_rows (Kd.int .u8) (w0 := w0) w0.heap.size rfl _ _ 58 5 (.int .u8 0) 1 rfl Tryd.underlying58 utf8_appendRuneNonASCII.info rfl (by decide) (by omega) u9000_ l0 [224 + a1 / 4096, 128 + a1 / 64 % 64, 128 + a1 % 64] _ 3 3 (fun k_ => P0_ k_ ∨ w.heap.size ≤ k_) (fun _ => False) rfl rfl ?aO HF (fun _ _ h => h) (fun _ h => h.elim) ?aF ?aB ?aS ?aL ?_)
  case aO => exact Kd.R_alloc (Kd.R_mono ho0 (fun _ h => .inl h)) _
  case aF => exact fun k hk => .inr (by first | omega | (simp at hk; omega))
  case aB => exact below_alloc hB _
  case aS => have := hB.size; first | omega | (simp; omega)
  case aL => first | omega | (simp; omega)
  intro v1 w1 hr1 hb1 hg1 _
  go_wp2
  go_ret
  exact utf8_appendRuneNonASCII.done P0_ u9000_ l0 _ w0 w w1 _ v1 hB ho0.1 hr1 hb1 hg1
set_option maxHeartbeats 4000000 in
set_option maxRecDepth 100000 in
theorem utf8_appendRuneNonASCII.hi (P0_ : Nat → Prop) (u9000_ : Value) (l0 : List Int) (a1 : Int) (h0 : 57343 < a1) (h1 : a1 ≤ 65535) (w0 w : World) (hB : Below w0.heap.size w0 w) (ho0 : Kd.R (Kd.int .u8) 5 w w0.heap.size P0_ u9000_ l0) (hl : l0.length + 4 ≤ 140737488355328) :
    Calls Tryd.prog 70 #[u9000_, .int .i32 a1] w fun e w' => ∃ v0_ : Value, e = .returned v0_ ∧ Kd.R (Kd.int .u8) 5 w' w0.heap.size (fun k_ => (P0_ k_ ∨ w.heap.size ≤ k_)) v0_ (l0 ++ [224 + a1 / 4096, 128 + a1 / 64 % 64, 128 + a1 % 64]) ∧ Below w0.heap.size w0 w' ∧ Kept w w' (fun k_ => P0_ k_) := by
  have HO := Kd.R_bound ho0
  have HF := utf8_appendRuneNonASCII.lit w [224 + a1 / 4096, 128 + a1 / 64 % 64, 128 + a1 % 64] (by simp)
  simp only [List.map_cons, List.map_nil] at HF
  go_enter Tryd.func70, Tryd.ntmps70
  go_wp2_with (at_builtin; refine Kd.R_append_rows (Kd.int .u8) (w0 := w0) w0.heap.size rfl _ _ 58 5 (.int .u8 0) 1 rfl Tryd.underlying58 utf8_appendRuneNonASCII.info rfl (by decide) (by omega) u9000_ l0 [224 + a1 / 4096, 128 + a1 / 64 % 64, 128 + a1 % 64] _ 3 3 (fun k_ => P0_ k_ ∨ w.heap.size ≤ k_) (fun _ => False) rfl rfl ?aO HF (fun _ _ h => h) (fun _ h => h.elim) ?aF ?aB ?aS ?aL ?_)
  case aO => exact Kd.R_alloc (Kd.R_mono ho0 (fun _ h => .inl h)) _
  case aF => exact fun k hk => .inr (by first | omega | (simp at hk; omega))
  case aB => exact below_alloc hB _
  case aS => have := hB.size; first | omega | (simp; omega)
  case aL => first | omega | (simp; omega)
  intro v1 w1 hr1 hb1 hg1 _
  go_wp2
  go_ret
  exact utf8_appendRuneNonASCII.done P0_ u9000_ l0 _ w0 w w1 _ v1 hB ho0.1 hr1 hb1 hg1
set_option maxHeartbeats 4000000 in
set_option maxRecDepth 100000 in
theorem utf8_appendRuneNonASCII.four (P0_ : Nat → Prop) (u9000_ : Value) (l0 : List Int) (a1 : Int) (h0 : 65536 ≤ a1) (h1 : a1 ≤ 1114111) (w0 w : World) (hB : Below w0.heap.size w0 w) (ho0 : Kd.R (Kd.int .u8) 5 w w0.heap.size P0_ u9000_ l0) (hl : l0.length + 4 ≤ 140737488355328) :
    Calls Tryd.prog 70 #[u9000_, .int .i32 a1] w fun e w' => ∃ v0_ : Value, e = .returned v0_ ∧ Kd.R (Kd.int .u8) 5 w' w0.heap.size (fun k_ => (P0_ k_ ∨ w.heap.size ≤ k_)) v0_ (l0 ++ [240 + a1 / 262144, 128 + a1 / 4096 % 64, 128 + a1 / 64 % 64, 128 + a1 % 64]) ∧ Below w0.heap.size w0 w' ∧ Kept w w' (fun k_ => P0_ k_) := by
  have HO := Kd.R_bound ho0
  have HF := utf8_appendRuneNonASCII.lit w [240 + a1 / 262144, 128 + a1 / 4096 % 64, 128 + a1 / 64 % 64, 128 + a1 % 64] (by simp)
  simp only [List.map_cons, List.map_nil] at HF
  go_enter Tryd.func70, Tryd.ntmps70
  go_wp2_with (at_builtin; refine Kd.R_append_rows (Kd.int .u8) (w0 := w0) w0.heap.size rfl _ _ 58 5 (.int .u8 0) 1 rfl Tryd.underlying58 utf8_appendRuneNonASCII.info rfl (by decide) (by omega) u9000_ l0 [240 + a1 / 262144, 128 + a1 / 4096 % 64, 128 + a1 / 64 % 64, 128 + a1 % 64] _ 4 4 (fun k_ => P0_ k_ ∨ w.heap.size ≤ k_) (fun _ => False) rfl rfl ?aO HF (fun _ _ h => h) (fun _ h => h.elim) ?aF ?aB ?aS ?aL ?_)
  case aO => exact Kd.R_alloc (Kd.R_mono ho0 (fun _ h => .inl h)) _
  case aF => exact fun k hk => .inr (by first | omega | (simp at hk; omega))
  case aB => exact below_alloc hB _
  case aS => have := hB.size; first | omega | (simp; omega)
  case aL => first | omega | (simp; omega)
  intro v1 w1 hr1 hb1 hg1 _
  go_wp2
  go_ret
  exact utf8_appendRuneNonASCII.done P0_ u9000_ l0 _ w0 w w1 _ v1 hB ho0.1 hr1 hb1 hg1
set_option maxHeartbeats 4000000 in
set_option maxRecDepth 100000 in
theorem utf8_appendRuneNonASCII.sur (P0_ : Nat → Prop) (u9000_ : Value) (l0 : List Int) (a1 : Int) (h0 : 55296 ≤ a1) (h1 : a1 ≤ 57343) (w0 w : World) (hB : Below w0.heap.size w0 w) (ho0 : Kd.R (Kd.int .u8) 5 w w0.heap.size P0_ u9000_ l0) (hl : l0.length + 4 ≤ 140737488355328) :
    Calls Tryd.prog 70 #[u9000_, .int .i32 a1] w fun e w' => ∃ v0_ : Value, e = .returned v0_ ∧ Kd.R (Kd.int .u8) 5 w' w0.heap.size (fun k_ => (P0_ k_ ∨ w.heap.size ≤ k_)) v0_ (l0 ++ [239, 191, 189]) ∧ Below w0.heap.size w0 w' ∧ Kept w w' (fun k_ => P0_ k_) := by
  have HO := Kd.R_bound ho0
  have HF := utf8_appendRuneNonASCII.lit w [239, 191, 189] (by simp)
  simp only [List.map_cons, List.map_nil] at HF
  go_enter Tryd.func70, Tryd.ntmps70
  go_wp2_with (at_builtin; refine Kd.R_append_rows (Kd.int .u8) (w0 := w0) w0.heap.size rfl _ _ 58 5 (.int .u8 0) 1 rfl Tryd.underlying58 utf8_appendRuneNonASCII.info rfl (by decide) (by omega) u9000_ l0 [239, 191, 189] _ 3 3 (fun k_ => P0_ k_ ∨ w.heap.size ≤ k_) (fun _ => False) rfl rfl ?aO HF (fun _ _ h => h) (fun _ h => h.elim) ?aF ?aB ?aS ?aL ?_)
  case aO => exact Kd.R_alloc (Kd.R_mono ho0 (fun _ h => .inl h)) _
  case aF => exact fun k hk => .inr (by first | omega | (simp at hk; omega))
  case aB => exact below_alloc hB _
  case aS => have := hB.size; first | omega | (simp; omega)
  case aL => first | omega | (simp; omega)
  intro v1 w1 hr1 hb1 hg1 _
  go_wp2
  go_ret
  exact utf8_appendRuneNonASCII.done P0_ u9000_ l0 _ w0 w w1 _ v1 hB ho0.1 hr1 hb1 hg1
set_option maxHeartbeats 4000000 in
set_option maxRecDepth 100000 in
theorem utf8_appendRuneNonASCII.big (P0_ : Nat → Prop) (u9000_ : Value) (l0 : List Int) (a1 : Int) (h0 : 1114111 < a1) (h1 : a1 ≤ 2147483647) (w0 w : World) (hB : Below w0.heap.size w0 w) (ho0 : Kd.R (Kd.int .u8) 5 w w0.heap.size P0_ u9000_ l0) (hl : l0.length + 4 ≤ 140737488355328) :
    Calls Tryd.prog 70 #[u9000_, .int .i32 a1] w fun e w' => ∃ v0_ : Value, e = .returned v0_ ∧ Kd.R (Kd.int .u8) 5 w' w0.heap.size (fun k_ => (P0_ k_ ∨ w.heap.size ≤ k_)) v0_ (l0 ++ [239, 191, 189]) ∧ Below w0.heap.size w0 w' ∧ Kept w w' (fun k_ => P0_ k_) := by
  have HO := Kd.R_bound ho0
  have HF := utf8_appendRuneNonASCII.lit w [239, 191, 189] (by simp)
  simp only [List.map_cons, List.map_nil] at HF
  go_enter Tryd.func70, Tryd.ntmps70
  go_wp2_with (at_builtin; refine Kd.R_append_rows (Kd.int .u8) (w0 := w0) w0.heap.size rfl _ _ 58 5 (.int .u8 0) 1 rfl Tryd.underlying58 utf8_appendRuneNonASCII.info rfl (by decide) (by omega) u9000_ l0 [239, 191, 189] _ 3 3 (fun k_ => P0_ k_ ∨ w.heap.size ≤ k_) (fun _ => False) rfl rfl ?aO HF (fun _ _ h => h) (fun _ h => h.elim) ?aF ?aB ?aS ?aL ?_)
  case aO => exact Kd.R_alloc (Kd.R_mono ho0 (fun _ h => .inl h)) _
  case aF => exact fun k hk => .inr (by first | omega | (simp at hk; omega))
  case aB => exact below_alloc hB _
  case aS => have := hB.size; first | omega | (simp; omega)
  case aL => first | omega | (simp; omega)
  intro v1 w1 hr1 hb1 hg1 _
  go_wp2
  go_ret
  exact utf8_appendRuneNonASCII.done P0_ u9000_ l0 _ w0 w w1 _ v1 hB ho0.1 hr1 hb1 hg1
set_option maxHeartbeats 4000000 in
set_option maxRecDepth 100000 in
theorem utf8_appendRuneNonASCII.neg (P0_ : Nat → Prop) (u9000_ : Value) (l0 : List Int) (a1 : Int) (h0 : -2147483648 ≤ a1) (h1 : a1 < 0) (w0 w : World) (hB : Below w0.heap.size w0 w) (ho0 : Kd.R (Kd.int .u8) 5 w w0.heap.size P0_ u9000_ l0) (hl : l0.length + 4 ≤ 140737488355328) :
    Calls Tryd.prog 70 #[u9000_, .int .i32 a1] w fun e w' => ∃ v0_ : Value, e = .returned v0_ ∧ Kd.R (Kd.int .u8) 5 w' w0.heap.size (fun k_ => (P0_ k_ ∨ w.heap.size ≤ k_)) v0_ (l0 ++ [239, 191, 189]) ∧ Below w0.heap.size w0 w' ∧ Kept w w' (fun k_ => P0_ k_) := by
  have HO := Kd.R_bound ho0
  have HF := utf8_appendRuneNonASCII.lit w [239, 191, 189] (by simp)
  simp only [List.map_cons, List.map_nil] at HF
  go_enter Tryd.func70, Tryd.ntmps70
  go_wp2_with (at_builtin; refine Kd.R_append_rows (Kd.int .u8) (w0 := w0) w0.heap.size rfl _ _ 58 5 (.int .u8 0) 1 rfl Tryd.underlying58 utf8_appendRuneNonASCII.info rfl (by decide) (by omega) u9000_ l0 [239, 191, 189] _ 3 3 (fun k_ => P0_ k_ ∨ w.heap.size ≤ k_) (fun _ => False) rfl rfl ?aO HF (fun _ _ h => h) (fun _ h => h.elim) ?aF ?aB ?aS ?aL ?_)
  case aO => exact Kd.R_alloc (Kd.R_mono ho0 (fun _ h => .inl h)) _
  case aF => exact fun k hk => .inr (by first | omega | (simp at hk; omega))
  case aB => exact below_alloc hB _
  case aS => have := hB.size; first | omega | (simp; omega)
  case aL => first | omega | (simp; omega)
  intro v1 w1 hr1 hb1 hg1 _
  go_wp2
  go_ret
  exact utf8_appendRuneNonASCII.done P0_ u9000_ l0 _ w0 w w1 _ v1 hB ho0.1 hr1 hb1 hg1
theorem utf8_appendRuneNonASCII.calls (P0_ : Nat → Prop) (u9000_ : Value) (l0 : List Int) (a1 : Int) (r : List Int) (w0 w : World) (hB : Below w0.heap.size w0 w) (ho0 : Kd.R (Kd.int .u8) 5 w w0.heap.size P0_ u9000_ l0) (h : utf8_appendRuneNonASCII.f l0 a1 = some r) :
    Calls Tryd.prog 70 #[u9000_, .int .i32 a1] w fun e w' => ∃ v0_ : Value, e = .returned v0_ ∧ Kd.R (Kd.int .u8) 5 w' w0.heap.size (fun k_ => (P0_ k_ ∨ w.heap.size ≤ k_)) v0_ r ∧ Below w0.heap.size w0 w' ∧ Kept w w' (fun k_ => P0_ k_) := by
  unfold utf8_appendRuneNonASCII.f at h
  by_cases hc : 127 < a1 % 4294967296 ∧ l0.length + 4 ≤ 140737488355328 ∧ -2147483648 ≤ a1 ∧ a1 ≤ 2147483647
  case neg => rw [if_neg hc] at h; cases h
  rw [if_pos hc] at h
  obtain rfl := Option.some.inj h
  obtain ⟨h1, hl, h2, h3⟩ := hc
  clear h
  by_cases c0 : a1 < 0
  · rw [Lib.encodeRuneZ_bad (.inl c0)]
    exact utf8_appendRuneNonASCII.neg P0_ u9000_ l0 a1 h2 c0 w0 w hB ho0 hl
  have c1 : 128 ≤ a1 := by omega
  by_cases c2 : a1 ≤ 2047
  · rw [Lib.encodeRuneZ_two c1 c2]
    exact utf8_appendRuneNonASCII.two P0_ u9000_ l0 a1 c1 c2 w0 w hB ho0 hl
  by_cases c3 : a1 < 55296
  · rw [Lib.encodeRuneZ_three (.inl ⟨by omega, c3⟩)]
    exact utf8_appendRuneNonASCII.lo P0_ u9000_ l0 a1 (by omega) c3 w0 w hB ho0 hl
  by_cases c4 : a1 ≤ 57343
  · rw [Lib.encodeRuneZ_bad (.inr (.inl ⟨by omega, c4⟩))]
    exact utf8_appendRuneNonASCII.sur P0_ u9000_ l0 a1 (by omega) c4 w0 w hB ho0 hl
  by_cases c5 : a1 ≤ 65535
  · rw [Lib.encodeRuneZ_three (.inr ⟨by omega, c5⟩)]
    exact utf8_appendRuneNonASCII.hi P0_ u9000_ l0 a1 (by omega) c5 w0 w hB ho0 hl
  by_cases c6 : a1 ≤ 1114111
  · rw [Lib.encodeRuneZ_four (by omega) c6]
    exact utf8_appendRuneNonASCII.four P0_ u9000_ l0 a1 (by omega) c6 w0 w hB ho0 hl
  · rw [Lib.encodeRuneZ_bad (.inr (.inr (by omega)))]
    exact utf8_appendRuneNonASCII.big P0_ u9000_ l0 a1 (by omega) h3 w0 w hB ho0 hl

/-! ### utf8_AppendRune: function 64 -/
def utf8_AppendRune.f (l0 : List Int) (a1 : Int) : Option (List Int) := if ((a1) % 4294967296) ≤ 127 then (if l0.length < 140737488355328 then (some (l0 ++ [(a1) % 256])) else (none)) else ((utf8_appendRuneNonASCII.f l0 a1).bind fun t120 => (some t120))
set_option maxHeartbeats 8000000 in
set_option maxRecDepth 100000 in
theorem utf8_AppendRune.calls (P0_ : Nat → Prop) (u9000_ : Value) (l0 : List Int) (a1 : Int) (r : List Int) (w0 w : World) (hB : Below w0.heap.size w0 w) (ho0 : Kd.R (Kd.int .u8) 5 w w0.heap.size P0_ u9000_ l0) (h : utf8_AppendRune.f l0 a1 = some r) :
    Calls Tryd.prog 64 #[u9000_, .int .i32 a1] w fun e w' => ∃ v0_ : Value, e = .returned (v0_) ∧ Kd.R (Kd.int .u8) 5 w' w0.heap.size (fun k_ => (P0_ k_ ∨ w.heap.size ≤ k_)) v0_ r ∧ Below w0.heap.size w0 w' ∧ Kept w w' (fun k_ => P0_ k_) := by
  have HO0 := Aside0.mk (show Kd.R (Kd.int .u8) 5 w w0.heap.size (fun k_ => (P0_ k_ ∨ w.heap.size ≤ k_)) u9000_ l0 from Kd.R_mono ho0 (fun k_ hk => (.inl hk)))
  have HK := Aside0.mk (Kept.refl w (fun k_ => P0_ k_))
  have HW0 := Aside0.mk hB.size
  have HB := Aside0.mk hB
  clear hB
  have H : (if ((a1) % 4294967296) ≤ 127 then (if l0.length < 140737488355328 then (some (l0 ++ [(a1) % 256])) else (none)) else ((utf8_appendRuneNonASCII.f l0 a1).bind fun t120 => (some t120))) = some r := h
  clear h
  by_cases c3 : ((a1) % 4294967296) ≤ 127
  · rw [if_pos c3] at H
    have c3b0 : decide (((a1) % 4294967296) ≤ 127) = true := decide_eq_true c3
    clear c3
    by_cases c4 : l0.length < 140737488355328
    · rw [if_pos c4] at H
      have LMc4 := Aside0.mk c4
      clear c4
      obtain ⟨y117, hy117⟩ : ∃ y_ : List Int, y_ = (l0 ++ [(a1) % 256]) := ⟨_, rfl⟩
      replace H : (some y117) = some r := by first | (rw [hy117]; with_reducible exact H) | (have H2_ := (Option.bind_some _ _).symm.trans H; rw [hy117]; with_reducible exact H2_) | (have H2_ := (Option.bind_some _ _).symm.trans H; with_reducible exact H2_) | with_reducible exact H | (rw [hy117]; exact H) | exact H
      have Ny117 := Aside0.mk hy117
      clear hy117
      obtain rfl := Option.some.inj H
      go_enter Tryd.func64, Tryd.ntmps64
      go_wp2_with (first | ((with_reducible refine gate_builtin (b := .append) (xs := #[.tmp 8, .tmp 11]) rfl ?_); at_builtin; refine Kd.R_append (Kd.int .u8) (w0 := w0) w0.heap.size rfl (.tmp 8) (.tmp 11) 58 5 (.int .u8 0) 1 rfl Tryd.underlying58 info5 rfl (by decide) (by omega) u9000_ l0 ((a1) % 256) [.int .u8 ((a1) % 256)] (fun k_ => (P0_ k_ ∨ w.heap.size ≤ k_)) (fun _ => False) rfl rfl ?aP (fun _ hk => hk.elim) ?aF ?aO ?aB ?aS ?aL ?_; (case aP => exact rfl); (case aB => exact (by repeat (first | (with_reducible first | exact HB.out | apply below_alloc | apply pw_below_drewN | apply below_drew1) | exact HB.out))); (case aF => exact (fun k_ hk => (.inr (Nat.le_trans (by first | exact HK.out.1 | exact (show Kept w _ (fun k_ => P0_ k_) from by repeat (first | (with_reducible first | exact HK.out | apply Kept.alloc | apply Kept.drewN | apply Kept.drew) | exact HK.out)).1) hk)))); (case aO => exact (by (with_reducible repeat (first | apply Kd.R_alloc | apply Kd.R_drewN | apply Kd.R_drew)); exact HO0.out)); (case aS => exact (below_size (by repeat (first | (with_reducible first | exact HB.out | apply below_alloc | apply pw_below_drewN | apply below_drew1) | exact HB.out)))); (case aL => have := LMc4.out; omega); intro v118 w5 ho hb hg hat; rw [← Ny117.out] at ho; have n0_ := Aside0.mk (hb); have n1_ := Aside0.mk (Kept.of_grown (S := (fun k_ => P0_ k_)) hg (by repeat (first | (with_reducible first | exact HK.out | apply Kept.alloc | apply Kept.drewN | apply Kept.drew) | exact HK.out)) (fun k_ e_ => (HO0.out.1 k_ e_))); have n2_ := Aside0.mk (ho); clear HB; clear HK; clear HO0; have HB := n0_; have HK := n1_; have HO119 := n2_; clear n0_ n1_ n2_; clear ho hb hg hat))
      go_ret
      exact ⟨_, by first | rfl | (simp [errW_none, errW_some] <;> rfl) | (simp [*, errW_none, errW_some] <;> rfl), by (with_reducible repeat (first | apply Kd.R_alloc | apply Kd.R_drewN | apply Kd.R_drew)); exact HO119.out, by repeat (first | (with_reducible first | exact HB.out | apply below_alloc | apply pw_below_drewN | apply below_drew1) | exact HB.out), by repeat (first | (with_reducible first | exact HK.out | apply Kept.alloc | apply Kept.drewN | apply Kept.drew) | exact HK.out)⟩
    · rw [if_neg c4] at H
      exact absurd H (by simp)
  · rw [if_neg c3] at H
    have c3b0 : decide (((a1) % 4294967296) ≤ 127) = false := decide_eq_false c3
    clear c3
    replace H := Option.bind_eq_some_iff.mp H
    obtain ⟨t120, A60, H⟩ := H
    replace H : (some t120) = some r := H
    have A6 := Aside0.mk A60
    clear A60
    obtain rfl := Option.some.inj H
    obtain ⟨Ao7, co7, eo7⟩ := Kd.R_slice HO0.out
    subst eo7
    go_enter Tryd.func64, Tryd.ntmps64
    go_wp2_with (first | ((with_reducible refine gate_callee (f := 70) rfl ?_); refine goesL_ (some 15) rfl rfl Tryd.func70 (by kernel_rfl) rfl #[.slice Ao7 l0.length co7, .int .i32 a1] rfl (by (try simp only [List.map_toArray, List.map_cons, List.map_nil]); first | done | rfl | (simp only [List.length_drop, List.length_take]; rfl)) ?_; (with_reducible refine (utf8_appendRuneNonASCII.calls (fun k_ => some k_ = (.slice Ao7 l0.length co7 : Value).ownBlock) (.slice Ao7 l0.length co7) l0 a1 t120 w0 _ ?side1 ?side2 A6.out).mono ?_); (case side1 => repeat (first | (with_reducible first | exact HB.out | apply below_alloc | apply pw_below_drewN | apply below_drew1) | exact HB.out)); (case side2 => exact Kd.R_tight rfl HO0.out); rintro e w8 ⟨v121, rfl, ho0, hb, hkp⟩; refine ⟨_, rfl, ?_⟩; have n0_ := Aside0.mk (Kd.R_mono (ok' := fun k_ => (P0_ k_ ∨ w.heap.size ≤ k_)) ho0 (fun k_ hk_ => Or.elim hk_ (fun hs_ => (HO0.out.1 k_ (hs_).symm)) (fun hn_ => (.inr (Nat.le_trans (by first | exact HK.out.1 | exact (show Kept w _ (fun k_ => P0_ k_) from by repeat (first | (with_reducible first | exact HK.out | apply Kept.alloc | apply Kept.drewN | apply Kept.drew) | exact HK.out)).1) hn_))))); have n1_ := Aside0.mk (Kept.then_ (S := (fun k_ => P0_ k_)) (by repeat (first | (with_reducible first | exact HK.out | apply Kept.alloc | apply Kept.drewN | apply Kept.drew) | exact HK.out)) hkp (fun k_ hs_ => (fun e_ => (HO0.out.1 k_ e_.symm)) hs_)); have n2_ := Aside0.mk (hb); clear HK; clear HB; clear HO0; have HO122 := n0_; have HK := n1_; have HB := n2_; clear n0_ n1_ n2_; (try clear hb); (try clear hkp); (try clear ho0)))
    go_ret
    exact ⟨_, by first | rfl | (simp [errW_none, errW_some] <;> rfl) | (simp [*, errW_none, errW_some] <;> rfl), by (with_reducible repeat (first | apply Kd.R_alloc | apply Kd.R_drewN | apply Kd.R_drew)); exact HO122.out, by repeat (first | (with_reducible first | exact HB.out | apply below_alloc | apply pw_below_drewN | apply below_drew1) | exact HB.out), by repeat (first | (with_reducible first | exact HK.out | apply Kept.alloc | apply Kept.drewN | apply Kept.drew) | exact HK.out)⟩

/-! ### text_Read: function 53 -/
mutual
def text_Read.j0 : Nat → ByteArray → Bool → Option (ByteArray × Int × Int)
  | 0, _, _ => none
  | k + 1, x0, x16 => if x16 = true then (some ((⟨#[]⟩ : ByteArray), 0, 12)) else (text_Read.l0 k x0 ([] : List Int) 1)
def text_Read.l0 : Nat → ByteArray → List Int → Int → Option (ByteArray × Int × Int)
  | 0, _, _, _ => none
  | k + 1, x0, x5, x6 => if x6 ≥ (x0.size : Int) then (text_Read.j2 k x0 x5 x6 true) else (if 0 ≤ x6 then (if x6 < (x0.size : Int) then (text_Read.j2 k x0 x5 x6 ((bt x0 x6) != 34)) else (none)) else (none))
def text_Read.j2 : Nat → ByteArray → List Int → Int → Bool → Option (ByteArray × Int × Int)
  | 0, _, _, _, _ => none
  | k + 1, x0, x5, x6, x26 => if x26 = true then (if 0 ≤ x6 then (if x6 ≤ (x0.size : Int) then ((text_one.f k (x0.extract (x6 : Int).toNat x0.size)).bind fun bt123 => (if bt123.2.2 = 0 then ((utf8_AppendRune.f x5 bt123.1).bind fun t126 => (text_Read.l0 k x0 t126 (wrap64 (x6 + bt123.2.1)))) else (some ((⟨#[]⟩ : ByteArray), 0, bt123.2.2)))) else (none)) else (none)) else (some (strOfNums x5, wrap64 (x6 + 1), 0))
end
def text_Read.f (k : Nat) (a0 : ByteArray) : Option (ByteArray × Int × Int) := if a0.toList = ([] : List UInt8) then (text_Read.j0 k a0 true) else (if 0 < (a0.size : Int) then (text_Read.j0 k a0 ((bt a0 0) != 34)) else (none))
theorem text_Read.mono_l : ∀ k, (∀ y0 y1, LeO (text_Read.j0 k y0 y1) (text_Read.j0 (k + 1) y0 y1)) ∧ (∀ y0 y1 y2, LeO (text_Read.l0 k y0 y1 y2) (text_Read.l0 (k + 1) y0 y1 y2)) ∧ (∀ y0 y1 y2 y3, LeO (text_Read.j2 k y0 y1 y2 y3) (text_Read.j2 (k + 1) y0 y1 y2 y3))
  | 0 => ⟨fun _ _ r h => by simp [text_Read.j0] at h, fun _ _ _ r h => by simp [text_Read.l0] at h, fun _ _ _ _ r h => by simp [text_Read.j2] at h⟩
  | k + 1 => by
    obtain ⟨ih0, ih1, ih2⟩ := text_Read.mono_l k
    refine ⟨?_, ?_, ?_⟩
    · intro y0 y1
      unfold text_Read.j0
      repeat' first
      | (with_reducible exact ih0 _ _)
      | (with_reducible exact ih1 _ _ _)
      | (with_reducible exact ih2 _ _ _ _)
      | (with_reducible exact text_one.mono _ _)
      | (with_reducible exact LeO.refl _)
      | (with_reducible exact LeO.none _)
      | (with_reducible refine LeO.ite ?_ ?_)
      | (with_reducible refine LeO.bind ?_ (fun _ => ?_))
      | exact ih0 _ _
      | exact ih1 _ _ _
      | exact ih2 _ _ _ _
      | exact text_one.mono _ _
      | exact LeO.none _
      | refine LeO.ite ?_ ?_
      | refine LeO.bind ?_ (fun _ => ?_)
    · intro y0 y1 y2
      unfold text_Read.l0
      repeat' first
      | (with_reducible exact ih0 _ _)
      | (with_reducible exact ih1 _ _ _)
      | (with_reducible exact ih2 _ _ _ _)
      | (with_reducible exact text_one.mono _ _)
      | (with_reducible exact LeO.refl _)
      | (with_reducible exact LeO.none _)
      | (with_reducible refine LeO.ite ?_ ?_)
      | (with_reducible refine LeO.bind ?_ (fun _ => ?_))
      | exact ih0 _ _
      | exact ih1 _ _ _
      | exact ih2 _ _ _ _
      | exact text_one.mono _ _
      | exact LeO.none _
      | refine LeO.ite ?_ ?_
      | refine LeO.bind ?_ (fun _ => ?_)
    · intro y0 y1 y2 y3
      unfold text_Read.j2
      repeat' first
      | (with_reducible exact ih0 _ _)
      | (with_reducible exact ih1 _ _ _)
      | (with_reducible exact ih2 _ _ _ _)
      | (with_reducible exact text_one.mono _ _)
      | (with_reducible exact LeO.refl _)
      | (with_reducible exact LeO.none _)
      | (with_reducible refine LeO.ite ?_ ?_)
      | (with_reducible refine LeO.bind ?_ (fun _ => ?_))
      | exact ih0 _ _
      | exact ih1 _ _ _
      | exact ih2 _ _ _ _
      | exact text_one.mono _ _
      | exact LeO.none _
      | refine LeO.ite ?_ ?_
      | refine LeO.bind ?_ (fun _ => ?_)
theorem text_Read.mono : ∀ a0 k, LeO (text_Read.f k a0) (text_Read.f (k + 1) a0) := by
  intro a0 k
  obtain ⟨ih0, ih1, ih2⟩ := text_Read.mono_l k
  unfold text_Read.f
  repeat' first
      | (with_reducible exact ih0 _ _)
      | (with_reducible exact ih1 _ _ _)
      | (with_reducible exact ih2 _ _ _ _)
      | (with_reducible exact text_one.mono _ _)
      | (with_reducible exact LeO.refl _)
      | (with_reducible exact LeO.none _)
      | (with_reducible refine LeO.ite ?_ ?_)
      | (with_reducible refine LeO.bind ?_ (fun _ => ?_))
      | exact ih0 _ _
      | exact ih1 _ _ _
      | exact ih2 _ _ _ _
      | exact text_one.mono _ _
      | exact LeO.none _
      | refine LeO.ite ?_ ?_
      | refine LeO.bind ?_ (fun _ => ?_)
set_option maxHeartbeats 8000000 in
set_option maxRecDepth 100000 in
theorem text_Read.calls (k : Nat) (a0 : ByteArray) (r1 : ByteArray) (r2 : Int) (r3 : Int) (w : World) (h : text_Read.f k a0 = some (r1, r2, r3)) (hT : Tb w) :
    Calls Tryd.prog 53 #[.string a0] w fun e w' => e = .returned (.tuple #[.string r1, .int .i64 r2, .int .i64 r3]) ∧ Below w.heap.size w w' := by
  have HB := Aside0.mk (Below.refl w.heap.size w)
  have H : (if a0.toList = ([] : List UInt8) then (text_Read.j0 k a0 true) else (if 0 < (a0.size : Int) then (text_Read.j0 k a0 ((bt a0 0) != 34)) else (none))) = some (r1, r2, r3) := h
  clear h
  have HT := Aside0.mk hT
  clear hT
  have HC2 := Aside0.mk H
  clear H
  go_enter Tryd.func53, Tryd.ntmps53
  go_upto_region 1 with (fail)
  go_cut [16] (fun v16 wc => ∃ (kq : Nat) (x16_1 : Bool), v16 = .bool x16_1 ∧ Aside0 (text_Read.j0 kq a0 x16_1 = some (r1, r2, r3)) ∧ Aside0 (kq ≤ k) ∧ Aside0 (Below w.heap.size w wc))
  case first =>
    have H := HC2.out
    clear HC2
    by_cases c3 : a0.toList = ([] : List UInt8)
    · rw [if_pos c3] at H
      have c3b0 : (a0.toList == ([] : List UInt8)) = true := beq_iff_eq.mpr c3
      have c3b1 : (a0.toList != ([] : List UInt8)) = false := bne_eq_false_iff_eq.mpr c3
      clear c3
      (first | rw [c3b0] | (simp only [i64_w, i32_w]; rw [c3b0]) | skip)
      have H' := Aside0.mk H
      clear H
      go_wp2
      go_meet
      case rel => exact ⟨_, (true), (by first | rfl | (simp; done) | (simp [*]; done)), H', ⟨by first | omega | exact Nat.le_refl _⟩, ⟨by repeat (first | (with_reducible first | exact HB.out | apply below_alloc | apply pw_below_drewN | apply below_drew1) | exact HB.out)⟩⟩
    · rw [if_neg c3] at H
      have c3b0 : (a0.toList == ([] : List UInt8)) = false := beq_eq_false_iff_ne.mpr c3
      have c3b1 : (a0.toList != ([] : List UInt8)) = true := bne_iff_ne.mpr c3
      (first | rw [c3b0] | (simp only [i64_w, i32_w]; rw [c3b0]) | skip)
      by_cases c4 : 0 < (a0.size : Int)
      · rw [if_pos c4] at H
        have c4b0 : decide (0 < (a0.size : Int)) = true := decide_eq_true c4
        have c4b1 : decide (0 < a0.size) = true := decide_eq_true (by omega)
        clear c4
        have H' := Aside0.mk H
        clear H
        have p5 : 0 ≤ (0 : Int) := (by omega)
        have q5 : 0 < a0.size := (by have : (0 : Int) < (a0.size : Int) := of_decide_eq_true (by first | (with_reducible assumption) | assumption); omega)
        have hx5 : ∀ h : 0 < a0.size, ((a0[0]'h).toNat : Int) = bt a0 0 := bt_at a0 0
        clear p5
        have qi5 : (0 < (a0.size : Int)) = True := eq_true (of_decide_eq_true (by first | (with_reducible assumption) | assumption))
        replace q5 := eq_true q5
        go_wp2
        go_meet
        case rel => exact ⟨_, (((bt a0 0) != 34)), (by first | rfl | (simp; done) | (simp [*]; done)), H', ⟨by first | omega | exact Nat.le_refl _⟩, ⟨by repeat (first | (with_reducible first | exact HB.out | apply below_alloc | apply pw_below_drewN | apply below_drew1) | exact HB.out)⟩⟩
      · rw [if_neg c4] at H
        exact absurd H (by simp)
  case rest =>
    clear HC2
    try clear p2
    try clear c3
    try clear c3b0
    try clear c3b1
    try clear c4
    try clear c4b0
    try clear c4b1
    try clear c5
    try clear p5
    try clear q5
    try clear hx5
    try clear qi5
    try clear p5
    try clear q5
    obtain ⟨kq, x16_1, rfl, HA, HJ1, HB⟩ := hcut
    cases kq with
    | zero => exact absurd HA.out (by simp [text_Read.j0])
    | succ kj1 =>
      have H := HA.out
      clear HA
      simp only [text_Read.j0] at H
      by_cases c6 : x16_1 = true
      · subst c6
        have H1 : (some ((⟨#[]⟩ : ByteArray), 0, 12)) = some (r1, r2, r3) := by rw [if_pos rfl] at H; exact H
        clear H
        have H := H1
        clear H1
        simp only [Option.some.injEq, Prod.mk.injEq] at H
        obtain ⟨rfl, rfl, rfl⟩ := H
        go_wp2
        go_ret3
        exact ⟨by first | rfl | (simp [errW_none, errW_some] <;> rfl) | (simp [*, errW_none, errW_some] <;> rfl), by repeat (first | (with_reducible first | exact HB.out | apply below_alloc | apply pw_below_drewN | apply below_drew1) | exact HB.out)⟩
      · replace c6 := Bool.eq_false_iff.mpr c6
        subst c6
        have H1 : (text_Read.l0 kj1 a0 ([] : List Int) 1) = some (r1, r2, r3) := by rw [if_neg (show ¬ (false = true) by decide)] at H; exact H
        clear H
        have H := H1
        clear H1
        have H' := Aside0.mk H
        clear H
        go_wp2
        go_loopg [5, 6] kj1 (fun kq v5 v6 w' => ∃ (x5_2 : List Int) (x6_2 : Int), v6 = .int .i64 x6_2 ∧ Aside0 (text_Read.l0 kq a0 x5_2 x6_2 = some (r1, r2, r3)) ∧ Aside0 (kq ≤ kj1) ∧ Aside0 (Kd.R (Kd.int .u8) 5 w' w.heap.size (fun _ => True) v5 x5_2) ∧ Aside0 (Below w.heap.size w w'))
        case atStart => exact ⟨(([] : List Int)), (1), (by first | rfl | (simp; done) | (simp [*]; done)), H', ⟨Nat.le_refl _⟩, ⟨by first | exact Kd.R_nil _ _ _ _ _ | exact Kd.N_nil _ _ _ _ _ | exact Kd.V_nil _ _ _ _ _ | exact Kd.Q_nil _ _ _ _ _ | exact Kd.S_nil _ _ _ _ _⟩, ⟨by repeat (first | (with_reducible first | exact HB.out | apply below_alloc | apply pw_below_drewN | apply below_drew1) | exact HB.out)⟩⟩
        case round =>
          clear H'
          try clear p2
          try clear c3
          try clear c3b0
          try clear c3b1
          try clear c4
          try clear c4b0
          try clear c4b1
          try clear c5
          try clear p5
          try clear q5
          try clear hx5
          try clear qi5
          try clear c6
          try clear p2
          try clear p5
          try clear q5
          obtain ⟨x5_2, x6_2, rfl, HA, HK2, HO_5, HB⟩ := hrel
          cases gk with
          | zero => exact absurd HA.out (by simp [text_Read.l0])
          | succ k2 =>
            have H := HA.out
            clear HA
            simp only [text_Read.l0] at H
            have HC7 := Aside0.mk H
            clear H
            go_upto_region 5 with (fail)
            go_cut [26] (fun v26 wc => ∃ (kq : Nat) (x26_6 : Bool), v26 = .bool x26_6 ∧ Aside0 (text_Read.j2 kq a0 x5_2 x6_2 x26_6 = some (r1, r2, r3)) ∧ Aside0 (kq ≤ k2) ∧ Aside0 (Kd.R (Kd.int .u8) 5 wc w.heap.size (fun _ => True) u5 x5_2) ∧ Aside0 (Below w.heap.size w wc))
            case first =>
              have H := HC7.out
              clear HC7
              by_cases c8 : x6_2 ≥ (a0.size : Int)
              · rw [if_pos c8] at H
                have c8b0 : decide ((a0.size : Int) ≤ x6_2) = true := decide_eq_true c8
                clear c8
                (first | rw [c8b0] | (simp only [i64_w, i32_w]; rw [c8b0]) | skip)
                have H' := Aside0.mk H
                clear H
                go_wp2
                go_meet
                case rel => exact ⟨_, (true), (by first | rfl | (simp; done) | (simp [*]; done)), H', ⟨by have := HJ1.out; have := HK2.out; first | omega | exact Nat.le_refl _⟩, ⟨by (with_reducible repeat (first | apply Kd.R_alloc | apply Kd.R_drewN | apply Kd.R_drew)); exact HO_5.out⟩, ⟨by repeat (first | (with_reducible first | exact HB.out | apply below_alloc | apply pw_below_drewN | apply below_drew1) | exact HB.out)⟩⟩
              · rw [if_neg c8] at H
                have c8b0 : decide ((a0.size : Int) ≤ x6_2) = false := decide_eq_false c8
                clear c8
                (first | rw [c8b0] | (simp only [i64_w, i32_w]; rw [c8b0]) | skip)
                by_cases c9 : 0 ≤ x6_2
                · rw [if_pos c9] at H
                  have c9b0 : decide (0 ≤ x6_2) = true := decide_eq_true c9
                  clear c9
                  by_cases c10 : x6_2 < (a0.size : Int)
                  · rw [if_pos c10] at H
                    have c10b0 : decide (x6_2 < (a0.size : Int)) = true := decide_eq_true c10
                    clear c10
                    have H' := Aside0.mk H
                    clear H
                    have p11 : 0 ≤ (x6_2 : Int) := of_decide_eq_true (by first | (with_reducible assumption) | assumption)
                    have q11 : x6_2 < (a0.size : Int) := of_decide_eq_true (by first | (with_reducible assumption) | assumption)
                    have hx11 := bt_at a0 x6_2
                    replace p11 := eq_true p11
                    replace q11 := eq_true q11
                    go_wp2
                    go_meet
                    case rel => exact ⟨_, (((bt a0 x6_2) != 34)), (by first | rfl | (simp; done) | (simp [*]; done)), H', ⟨by have := HJ1.out; have := HK2.out; first | omega | exact Nat.le_refl _⟩, ⟨by (with_reducible repeat (first | apply Kd.R_alloc | apply Kd.R_drewN | apply Kd.R_drew)); exact HO_5.out⟩, ⟨by repeat (first | (with_reducible first | exact HB.out | apply below_alloc | apply pw_below_drewN | apply below_drew1) | exact HB.out)⟩⟩
                  · rw [if_neg c10] at H
                    exact absurd H (by simp)
                · rw [if_neg c9] at H
                  exact absurd H (by simp)
            case rest =>
              clear HC7
              try clear c1
              try clear p1
              try clear q1
              try clear hx1
              try clear p2
              try clear c3
              try clear c3b0
              try clear c3b1
              try clear c4
              try clear c4b0
              try clear c4b1
              try clear c5
              try clear p5
              try clear q5
              try clear hx5
              try clear qi5
              try clear c6
              try clear c8
              try clear c8b0
              try clear c9
              try clear c9b0
              try clear c10
              try clear c10b0
              try clear p11
              try clear q11
              try clear hx11
              try clear p11
              try clear p2
              try clear p5
              try clear q11
              try clear q5
              obtain ⟨kq, x26_6, rfl, HA, HJ6, HO_5, HB⟩ := hcut
              cases kq with
              | zero => exact absurd HA.out (by simp [text_Read.j2])
              | succ kj6 =>
                have H := HA.out
                clear HA
                simp only [text_Read.j2] at H
                by_cases c12 : x26_6 = true
                · subst c12
                  have H1 : (if 0 ≤ x6_2 then (if x6_2 ≤ (a0.size : Int) then ((text_one.f kj6 (a0.extract (x6_2 : Int).toNat a0.size)).bind fun bt123 => (if bt123.2.2 = 0 then ((utf8_AppendRune.f x5_2 bt123.1).bind fun t126 => (text_Read.l0 kj6 a0 t126 (wrap64 (x6_2 + bt123.2.1)))) else (some ((⟨#[]⟩ : ByteArray), 0, bt123.2.2)))) else (none)) else (none)) = some (r1, r2, r3) := by rw [if_pos rfl] at H; exact H
                  clear H
                  have H := H1
                  clear H1
                  by_cases c13 : 0 ≤ x6_2
                  · rw [if_pos c13] at H
                    have c13b0 := eq_true c13
                    have c13b1 : decide (0 ≤ x6_2) = true := decide_eq_true c13
                    clear c13
                    by_cases c14 : x6_2 ≤ (a0.size : Int)
                    · rw [if_pos c14] at H
                      have c14b0 := eq_true c14
                      have c14b1 : decide (x6_2 ≤ (a0.size : Int)) = true := decide_eq_true c14
                      clear c14
                      replace H := Option.bind_eq_some_iff.mp H
                      obtain ⟨⟨t123, t124, t125⟩, A150, H⟩ := H
                      replace H : (if t125 = 0 then ((utf8_AppendRune.f x5_2 t123).bind fun t126 => (text_Read.l0 kj6 a0 t126 (wrap64 (x6_2 + t124)))) else (some ((⟨#[]⟩ : ByteArray), 0, t125))) = some (r1, r2, r3) := H
                      have A15 := Aside0.mk A150
                      clear A150
                      by_cases c16 : t125 = 0
                      · rw [if_pos c16] at H
                        have c16b0 : (t125 == 0) = true := beq_iff_eq.mpr c16
                        have c16b1 : (t125 != 0) = false := bne_eq_false_iff_eq.mpr c16
                        clear c16
                        replace H := Option.bind_eq_some_iff.mp H
                        obtain ⟨t126, A170, H⟩ := H
                        replace H : (text_Read.l0 kj6 a0 t126 (wrap64 (x6_2 + t124))) = some (r1, r2, r3) := H
                        have A17 := Aside0.mk A170
                        clear A170
                        have H' := Aside0.mk H
                        clear H
                        go_wp2_with (first | ((with_reducible refine gate_callee (f := 63) rfl ?_); refine goesL_ (some 31) rfl rfl Tryd.func63 (by kernel_rfl) rfl #[.string (a0.extract (x6_2 : Int).toNat a0.size)] rfl (by (try simp only [List.map_toArray, List.map_cons, List.map_nil]); first | done | rfl | (simp only [List.length_drop, List.length_take]; rfl)) ?_; (with_reducible refine (text_one.calls kj6 (a0.extract (x6_2 : Int).toNat a0.size) t123 t124 t125 _ A15.out ?side1).mono ?_); (case side1 => exact Tb.below HT.out (by repeat (first | (with_reducible first | exact HB.out | apply below_alloc | apply pw_below_drewN | apply below_drew1) | exact HB.out))); rintro e w18 ⟨rfl, hb⟩; refine ⟨_, rfl, ?_⟩; have n0_ := Aside0.mk (Kd.R_below (by (with_reducible repeat (first | apply Kd.R_alloc | apply Kd.R_drewN | apply Kd.R_drew)); exact HO_5.out) hb); have n1_ := Aside0.mk (below_step (by repeat (first | (with_reducible first | exact HB.out | apply below_alloc | apply pw_below_drewN | apply below_drew1) | exact HB.out)) hb); clear HO_5; clear HB; have HO_5 := n0_; have HB := n1_; clear n0_ n1_; (try clear hb); (try clear hb2); (try clear hk); (try clear hi); obtain ⟨Ao19, co19, eo19⟩ := Kd.R_slice HO_5.out; subst eo19) | ((with_reducible refine gate_callee (f := 64) rfl ?_); refine goesL_ (some 40) rfl rfl Tryd.func64 (by kernel_rfl) rfl #[.slice Ao19 x5_2.length co19, .int .i32 t123] rfl (by (try simp only [List.map_toArray, List.map_cons, List.map_nil]); first | done | rfl | (simp only [List.length_drop, List.length_take]; rfl)) ?_; (with_reducible refine (utf8_AppendRune.calls (fun k_ => some k_ = (.slice Ao19 x5_2.length co19 : Value).ownBlock) (.slice Ao19 x5_2.length co19) x5_2 t123 t126 w _ ?side1 ?side2 A17.out).mono ?_); (case side1 => repeat (first | (with_reducible first | exact HB.out | apply below_alloc | apply pw_below_drewN | apply below_drew1) | exact HB.out)); (case side2 => exact Kd.R_tight rfl HO_5.out); rintro e w20 ⟨v127, rfl, ho0, hb, hkp⟩; refine ⟨_, rfl, ?_⟩; have n0_ := Aside0.mk (Kd.R_mono (ok' := fun k_ => True) ho0 (fun k_ hk_ => trivial)); have n1_ := Aside0.mk (hb); clear HB; clear HO_5; have HO128 := n0_; have HB := n1_; clear n0_ n1_; (try clear hb); (try clear hkp); (try clear ho0)))
                        go_roundg kj6
                        case measure => have := HJ1.out; have := HK2.out; have := HJ6.out; omega
                        case rel => exact ⟨(t126), (wrap64 (x6_2 + t124)), (by first | rfl | (simp; done) | (simp [*]; done)), H', ⟨by have := HJ1.out; have := HK2.out; have := HJ6.out; omega⟩, ⟨by (with_reducible repeat (first | apply Kd.R_alloc | apply Kd.R_drewN | apply Kd.R_drew)); exact HO128.out⟩, ⟨by repeat (first | (with_reducible first | exact HB.out | apply below_alloc | apply pw_below_drewN | apply below_drew1) | exact HB.out)⟩⟩
                      · rw [if_neg c16] at H
                        have c16b0 : (t125 == 0) = false := beq_eq_false_iff_ne.mpr c16
                        have c16b1 : (t125 != 0) = true := bne_iff_ne.mpr c16
                        simp only [Option.some.injEq, Prod.mk.injEq] at H
                        obtain ⟨rfl, rfl, rfl⟩ := H
                        go_wp2_with (first | ((with_reducible refine gate_callee (f := 63) rfl ?_); refine goesL_ (some 31) rfl rfl Tryd.func63 (by kernel_rfl) rfl #[.string (a0.extract (x6_2 : Int).toNat a0.size)] rfl (by (try simp only [List.map_toArray, List.map_cons, List.map_nil]); first | done | rfl | (simp only [List.length_drop, List.length_take]; rfl)) ?_; (with_reducible refine (text_one.calls kj6 (a0.extract (x6_2 : Int).toNat a0.size) t123 t124 t125 _ A15.out ?side1).mono ?_); (case side1 => exact Tb.below HT.out (by repeat (first | (with_reducible first | exact HB.out | apply below_alloc | apply pw_below_drewN | apply below_drew1) | exact HB.out))); rintro e w21 ⟨rfl, hb⟩; refine ⟨_, rfl, ?_⟩; have n0_ := Aside0.mk (Kd.R_below (by (with_reducible repeat (first | apply Kd.R_alloc | apply Kd.R_drewN | apply Kd.R_drew)); exact HO_5.out) hb); have n1_ := Aside0.mk (below_step (by repeat (first | (with_reducible first | exact HB.out | apply below_alloc | apply pw_below_drewN | apply below_drew1) | exact HB.out)) hb); clear HO_5; clear HB; have HO_5 := n0_; have HB := n1_; clear n0_ n1_; (try clear hb); (try clear hb2); (try clear hk); (try clear hi)))
                        go_ret3
                        exact ⟨by first | rfl | (simp [errW_none, errW_some] <;> rfl) | (simp [*, errW_none, errW_some] <;> rfl), by repeat (first | (with_reducible first | exact HB.out | apply below_alloc | apply pw_below_drewN | apply below_drew1) | exact HB.out)⟩
                    · rw [if_neg c14] at H
                      exact absurd H (by simp)
                  · rw [if_neg c13] at H
                    exact absurd H (by simp)
                · replace c12 := Bool.eq_false_iff.mpr c12
                  subst c12
                  have H1 : (some (strOfNums x5_2, wrap64 (x6_2 + 1), 0)) = some (r1, r2, r3) := by rw [if_neg (show ¬ (false = true) by decide)] at H; exact H
                  clear H
                  have H := H1
                  clear H1
                  simp only [Option.some.injEq, Prod.mk.injEq] at H
                  obtain ⟨rfl, rfl, rfl⟩ := H
                  have hcv22 := own_string (P := Tryd.prog) Tryd.underlying58 Tryd.underlying5 Tryd.underlying9 (Kd.own_of_R HO_5.out)
                  go_wp2
                  go_ret3
                  exact ⟨by first | rfl | (simp [errW_none, errW_some] <;> rfl) | (simp [*, errW_none, errW_some] <;> rfl), by repeat (first | (with_reducible first | exact HB.out | apply below_alloc | apply pw_below_drewN | apply below_drew1) | exact HB.out)⟩

end Go.Proofs.YtaiegjgbdfmfpaaDoor.GL
