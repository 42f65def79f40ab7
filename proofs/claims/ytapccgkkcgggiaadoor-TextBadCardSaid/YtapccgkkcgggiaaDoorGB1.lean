-- Written by wip/tools/gprint.py over the kit's printer.
import Derived.Test.YtapccgkkcgggiaaDoorGB0
namespace Go.Proofs.YtapccgkkcgggiaaDoor.GB
open Go.RowKit Go.Proofs.YtapccgkkcgggiaaDoorW.PrintWords Go.Proofs.YtapccgkkcgggiaaDoorW.PrintLast Go.Proofs.YtapccgkkcgggiaaDoor.HandB Go.Proofs.YtapccgkkcgggiaaDoorW.PrintMore
attribute [local go_sem] max2_int min2_int max_two min_two max_three min_three max_four min_four   -- for this text's walks alone
set_option linter.unusedVariables false
set_option linter.unusedSimpArgs false

/-! ### text_Runes: function 19, given -/
/-- The runes from a place on. -/
def runesFrom (s : ByteArray) : Nat → Nat → List Int
  | 0, _ => []
  | fuel + 1, pos => if pos < s.size then ((Utf8.decode s pos).1 : Int) :: runesFrom s fuel (pos + (Utf8.decode s pos).2) else []
theorem runesFrom_end (s : ByteArray) (fuel pos : Nat) (h : ¬ pos < s.size) : runesFrom s fuel pos = [] := by
  cases fuel with
  | zero => rfl
  | succ f => simp only [runesFrom]; rw [if_neg h]
theorem width_pos (s : ByteArray) (pos : Nat) (h : pos < s.size) : 1 ≤ (Utf8.decode s pos).2 := by
  by_cases ha : (s[pos]'h).toNat < 128
  · rw [decode_ascii s pos h ha]
    exact Nat.le_refl _
  · exact (decode_high s pos h (by omega)).2
def text_Runes.f (a0 : ByteArray) : Option (List Int) := if a0.size < 35184372088832 then some (runesFrom a0 a0.size 0) else none
theorem text_Runes.info : (Tryd.prog.info? 21).map (fun i => (i.zero, i.size, i.bytes)) = some (some (.int .i32 0), 1, 4) := by kernel_rfl
set_option maxHeartbeats 2000000 in
theorem text_Runes.calls (a0 : ByteArray) (r : List Int) (w : World) (h : text_Runes.f a0 = some r) :
    Calls Tryd.prog 19 #[.string a0] w fun e w' => ∃ v0_ : Value, e = .returned (v0_) ∧ Kd.R (Kd.int .i32) 21 w' w.heap.size (fun _ => True) v0_ r ∧ Below w.heap.size w w' := by
  unfold text_Runes.f at h
  by_cases hs : a0.size < 35184372088832
  case neg => rw [if_neg hs] at h; cases h
  rw [if_pos hs] at h
  have HR := Lib.hid (Option.some.inj h)
  clear h
  go_enter Tryd.func19, Tryd.ntmps19
  go_wp2
  go_loopw [3] (fun v wr => ∃ (pos fuel : Nat) (acc : List Int), Hid (wr.heap[w.heap.size]? = some (.stringIter a0 pos)) ∧ Aside0 (Kd.R (Kd.int .i32) 21 wr w.heap.size (fun k => k ≠ w.heap.size) v acc) ∧ Aside0 (Below w.heap.size w wr) ∧ Hid (acc ++ runesFrom a0 fuel pos = r) ∧ a0.size ≤ pos + fuel ∧ acc.length ≤ pos ∧ w.heap.size < wr.heap.size) (fun _ wr => a0.size - wr.iterPos w.heap.size)
  case atStart => exact ⟨0, a0.size, [], Lib.hid (World.iter_heap _ _ _), ⟨Kd.R_nil _ _ _ _ _⟩, ⟨(Below.refl _ _).alloc (Nat.le_refl _) _⟩, HR, by omega, Nat.le_refl _, by simp [World.iter]⟩
  case round =>
    obtain ⟨pos, fuel, acc, hit, HO, HB, HA, hfu, hal, hsz⟩ := hrel
    clear HR
    have HM := Lib.hid (show wr.iterPos w.heap.size = pos by simp [World.iterPos, hit.out])
    by_cases hp : pos < a0.size
    · have hnx := fun ty => Lib.run_next_any_at (P := Tryd.prog) wr w.heap.size a0 pos ty hit.out hp
      have hwd := width_pos a0 pos hp
      obtain ⟨f, rfl⟩ : ∃ f, fuel = f + 1 := ⟨fuel - 1, by omega⟩
      have ha := HA.out
      simp only [runesFrom] at ha
      rw [if_pos hp] at ha
      have hit2 := Lib.hid (Lib.iterAt_heap wr w.heap.size a0 pos (pos + (Utf8.decode a0 pos).2) hit.out)
      have HB2 := Aside0.mk (Lib.below_iterAt HB.out (k := w.heap.size) (Nat.le_refl _) a0 (pos + (Utf8.decode a0 pos).2))
      have HO2 := Aside0.mk (Kd.R_step (w1 := wr.iterAt w.heap.size a0 (pos + (Utf8.decode a0 pos).2)) HO.out (fun k hk _ => Lib.iterAt_other wr w.heap.size k a0 _ hk))
      have hsz2 : w.heap.size < (wr.iterAt w.heap.size a0 (pos + (Utf8.decode a0 pos).2)).heap.size := by rw [Lib.iterAt_size]; exact hsz
      clear HA HO HB hit hsz
      obtain ⟨c, hc⟩ : ∃ c : Int, ((Utf8.decode a0 pos).1 : Int) = c := ⟨_, rfl⟩
      obtain ⟨q, hq⟩ : ∃ q : Nat, (Utf8.decode a0 pos).2 = q := ⟨_, rfl⟩
      rw [hc, hq] at hnx ha
      rw [hq] at hit2 HB2 HO2 hsz2 hwd
      clear hc hq
      have HA2 := Lib.hid ha
      clear ha
      generalize wr.iterAt w.heap.size a0 (pos + q) = wn at hnx hit2 HB2 HO2 hsz2
      go_wp2_with ((with_reducible refine gate_builtin (b := .append) (xs := #[.tmp 11, .tmp 13]) rfl ?_); at_builtin; refine Kd.R_append (Kd.int .i32) (w0 := w) w.heap.size rfl (.tmp 11) (.tmp 13) 27 21 (.int .i32 0) 4 rfl Tryd.underlying27 text_Runes.info rfl (by decide) (by omega) u3 acc c [.int .i32 c] (fun k => k ≠ w.heap.size) (fun _ => False) rfl rfl ?aP (fun _ hk => hk.elim) ?aF ?aO ?aB ?aS ?aL ?_; (case aP => exact rfl); (case aF => exact (fun k hk => by omega)); (case aO => exact HO2.out); (case aB => exact HB2.out); (case aS => exact Nat.le_of_lt hsz2); (case aL => omega); intro v1 w1 ho hb hg hat; have hit3 := Lib.hid ((hg.block w.heap.size hsz2 (fun e => HO2.out.1 w.heap.size e.symm rfl)).trans hit2.out); have HO3 := Aside0.mk ho; have HB3 := Aside0.mk hb; have hsz3 := Nat.lt_of_lt_of_le hsz2 hg.size; clear HO2 HB2 ho hb hg hat hit2 hsz2)
      go_roundw
      case rel => exact ⟨pos + q, f, acc ++ [c], hit3, HO3, HB3, Lib.hid (by rw [List.append_assoc]; exact HA2.out), by omega, by simp; omega, hsz3⟩
      case measure =>
        have h1 := HM.out
        have h2 := hit3.out
        simp only [World.iterPos] at *
        simp [h1, h2]
        omega
    · have hnx := fun ty => Lib.run_next_end_at (P := Tryd.prog) wr w.heap.size a0 pos ty hit.out hp
      have ha := HA.out
      rw [runesFrom_end a0 fuel pos hp, List.append_nil] at ha
      subst ha
      clear HA
      go_wp2
      go_ret
      exact ⟨_, rfl, Kd.R_mono HO.out (fun _ _ => trivial), HB.out⟩

/-! ### text_Like: function 14 -/
mutual
def text_Like.l0 : Nat → List Int → List Int → Int → Int → Int → Int → Option (Bool)
  | 0, _, _, _, _, _, _ => none
  | k + 1, x5, x6, x7, x8, x9, x10 => if x7 < (x5.length : Int) then (if x8 < (x6.length : Int) then (if 0 ≤ x8 then (text_Like.j1 k x5 x6 x7 x8 x9 x10 ((rd x6 x8) == 42)) else (none)) else (text_Like.j1 k x5 x6 x7 x8 x9 x10 false)) else (text_Like.l1 k x6 x8)
def text_Like.j1 : Nat → List Int → List Int → Int → Int → Int → Int → Bool → Option (Bool)
  | 0, _, _, _, _, _, _, _ => none
  | k + 1, x5, x6, x7, x8, x9, x10, x19 => if x19 = true then (text_Like.l0 k x5 x6 x7 (wrap64 (x8 + 1)) x8 x7) else (if x8 < (x6.length : Int) then (if 0 ≤ x8 then (if 0 ≤ x7 then (if x7 < (x5.length : Int) then (text_Like.j2 k x5 x6 x7 x8 x9 x10 ((rd x6 x8) == (rd x5 x7))) else (none)) else (none)) else (none)) else (text_Like.j2 k x5 x6 x7 x8 x9 x10 false))
def text_Like.j2 : Nat → List Int → List Int → Int → Int → Int → Int → Bool → Option (Bool)
  | 0, _, _, _, _, _, _, _ => none
  | k + 1, x5, x6, x7, x8, x9, x10, x35 => if x35 = true then (text_Like.l0 k x5 x6 (wrap64 (x7 + 1)) (wrap64 (x8 + 1)) x9 x10) else (if x9 ≥ 0 then (text_Like.l0 k x5 x6 (wrap64 (x10 + 1)) (wrap64 (x9 + 1)) x9 (wrap64 (x10 + 1))) else (some false))
def text_Like.l1 : Nat → List Int → Int → Option (Bool)
  | 0, _, _ => none
  | k + 1, x6, x8 => if x8 < (x6.length : Int) then (if 0 ≤ x8 then (if (rd x6 x8) = 42 then (text_Like.l1 k x6 (wrap64 (x8 + 1))) else (some (x8 == (x6.length : Int)))) else (none)) else (some (x8 == (x6.length : Int)))
end
def text_Like.f (k : Nat) (a0 : ByteArray) (a1 : ByteArray) : Option (Bool) := (text_Runes.f a0).bind fun t101 => ((text_Runes.f a1).bind fun t104 => (text_Like.l0 k t101 t104 0 0 (-1) 0))
theorem text_Like.mono_l : ∀ k, (∀ y0 y1 y2 y3 y4 y5, LeO (text_Like.l0 k y0 y1 y2 y3 y4 y5) (text_Like.l0 (k + 1) y0 y1 y2 y3 y4 y5)) ∧ (∀ y0 y1 y2 y3 y4 y5 y6, LeO (text_Like.j1 k y0 y1 y2 y3 y4 y5 y6) (text_Like.j1 (k + 1) y0 y1 y2 y3 y4 y5 y6)) ∧ (∀ y0 y1 y2 y3 y4 y5 y6, LeO (text_Like.j2 k y0 y1 y2 y3 y4 y5 y6) (text_Like.j2 (k + 1) y0 y1 y2 y3 y4 y5 y6)) ∧ (∀ y0 y1, LeO (text_Like.l1 k y0 y1) (text_Like.l1 (k + 1) y0 y1))
  | 0 => ⟨fun _ _ _ _ _ _ r h => by simp [text_Like.l0] at h, fun _ _ _ _ _ _ _ r h => by simp [text_Like.j1] at h, fun _ _ _ _ _ _ _ r h => by simp [text_Like.j2] at h, fun _ _ r h => by simp [text_Like.l1] at h⟩
  | k + 1 => by
    obtain ⟨ih0, ih1, ih2, ih3⟩ := text_Like.mono_l k
    refine ⟨?_, ?_, ?_, ?_⟩
    · intro y0 y1 y2 y3 y4 y5
      unfold text_Like.l0
      repeat' first
      | (with_reducible exact ih0 _ _ _ _ _ _)
      | (with_reducible exact ih1 _ _ _ _ _ _ _)
      | (with_reducible exact ih2 _ _ _ _ _ _ _)
      | (with_reducible exact ih3 _ _)
      | (with_reducible exact LeO.refl _)
      | (with_reducible exact LeO.none _)
      | (with_reducible refine LeO.ite ?_ ?_)
      | (with_reducible refine LeO.bind ?_ (fun _ => ?_))
      | exact ih0 _ _ _ _ _ _
      | exact ih1 _ _ _ _ _ _ _
      | exact ih2 _ _ _ _ _ _ _
      | exact ih3 _ _
      | exact LeO.none _
      | refine LeO.ite ?_ ?_
      | refine LeO.bind ?_ (fun _ => ?_)
    · intro y0 y1 y2 y3 y4 y5 y6
      unfold text_Like.j1
      repeat' first
      | (with_reducible exact ih0 _ _ _ _ _ _)
      | (with_reducible exact ih1 _ _ _ _ _ _ _)
      | (with_reducible exact ih2 _ _ _ _ _ _ _)
      | (with_reducible exact ih3 _ _)
      | (with_reducible exact LeO.refl _)
      | (with_reducible exact LeO.none _)
      | (with_reducible refine LeO.ite ?_ ?_)
      | (with_reducible refine LeO.bind ?_ (fun _ => ?_))
      | exact ih0 _ _ _ _ _ _
      | exact ih1 _ _ _ _ _ _ _
      | exact ih2 _ _ _ _ _ _ _
      | exact ih3 _ _
      | exact LeO.none _
      | refine LeO.ite ?_ ?_
      | refine LeO.bind ?_ (fun _ => ?_)
    · intro y0 y1 y2 y3 y4 y5 y6
      unfold text_Like.j2
      repeat' first
      | (with_reducible exact ih0 _ _ _ _ _ _)
      | (with_reducible exact ih1 _ _ _ _ _ _ _)
      | (with_reducible exact ih2 _ _ _ _ _ _ _)
      | (with_reducible exact ih3 _ _)
      | (with_reducible exact LeO.refl _)
      | (with_reducible exact LeO.none _)
      | (with_reducible refine LeO.ite ?_ ?_)
      | (with_reducible refine LeO.bind ?_ (fun _ => ?_))
      | exact ih0 _ _ _ _ _ _
      | exact ih1 _ _ _ _ _ _ _
      | exact ih2 _ _ _ _ _ _ _
      | exact ih3 _ _
      | exact LeO.none _
      | refine LeO.ite ?_ ?_
      | refine LeO.bind ?_ (fun _ => ?_)
    · intro y0 y1
      unfold text_Like.l1
      repeat' first
      | (with_reducible exact ih0 _ _ _ _ _ _)
      | (with_reducible exact ih1 _ _ _ _ _ _ _)
      | (with_reducible exact ih2 _ _ _ _ _ _ _)
      | (with_reducible exact ih3 _ _)
      | (with_reducible exact LeO.refl _)
      | (with_reducible exact LeO.none _)
      | (with_reducible refine LeO.ite ?_ ?_)
      | (with_reducible refine LeO.bind ?_ (fun _ => ?_))
      | exact ih0 _ _ _ _ _ _
      | exact ih1 _ _ _ _ _ _ _
      | exact ih2 _ _ _ _ _ _ _
      | exact ih3 _ _
      | exact LeO.none _
      | refine LeO.ite ?_ ?_
      | refine LeO.bind ?_ (fun _ => ?_)
theorem text_Like.mono : ∀ a0 a1 k, LeO (text_Like.f k a0 a1) (text_Like.f (k + 1) a0 a1) := by
  intro a0 a1 k
  obtain ⟨ih0, ih1, ih2, ih3⟩ := text_Like.mono_l k
  unfold text_Like.f
  repeat' first
      | (with_reducible exact ih0 _ _ _ _ _ _)
      | (with_reducible exact ih1 _ _ _ _ _ _ _)
      | (with_reducible exact ih2 _ _ _ _ _ _ _)
      | (with_reducible exact ih3 _ _)
      | (with_reducible exact LeO.refl _)
      | (with_reducible exact LeO.none _)
      | (with_reducible refine LeO.ite ?_ ?_)
      | (with_reducible refine LeO.bind ?_ (fun _ => ?_))
      | exact ih0 _ _ _ _ _ _
      | exact ih1 _ _ _ _ _ _ _
      | exact ih2 _ _ _ _ _ _ _
      | exact ih3 _ _
      | exact LeO.none _
      | refine LeO.ite ?_ ?_
      | refine LeO.bind ?_ (fun _ => ?_)
set_option maxHeartbeats 8000000 in
set_option maxRecDepth 100000 in
theorem text_Like.calls (k : Nat) (a0 : ByteArray) (a1 : ByteArray) (r : Bool) (w : World) (h : text_Like.f k a0 a1 = some r) :
    Calls Tryd.prog 14 #[.string a0, .string a1] w fun e w' => e = .returned (.bool r) ∧ Below w.heap.size w w' := by
  have HB := Aside0.mk (Below.refl w.heap.size w)
  have H : ((text_Runes.f a0).bind fun t101 => ((text_Runes.f a1).bind fun t104 => (text_Like.l0 k t101 t104 0 0 (-1) 0))) = some r := h
  clear h
  replace H := Option.bind_eq_some_iff.mp H
  obtain ⟨t101, A30, H⟩ := H
  replace H : ((text_Runes.f a1).bind fun t104 => (text_Like.l0 k t101 t104 0 0 (-1) 0)) = some r := H
  have A3 := Aside0.mk A30
  clear A30
  replace H := Option.bind_eq_some_iff.mp H
  obtain ⟨t104, A40, H⟩ := H
  replace H : (text_Like.l0 k t101 t104 0 0 (-1) 0) = some r := H
  have A4 := Aside0.mk A40
  clear A40
  have H' := Aside0.mk H
  clear H
  go_enter Tryd.func14, Tryd.ntmps14
  go_wp2_with (first | (go_at_call 19; (with_reducible refine (text_Runes.calls a0 t101 _ A3.out).mono ?_); rintro e w5 ⟨v102, rfl, ho0, hb⟩; have n0_ := Aside0.mk (Kd.R_lower ho0 (below_size (by repeat (first | (with_reducible first | exact HB.out | apply below_alloc | apply pw_below_drewN | apply below_drew1) | exact HB.out)))); have n1_ := Aside0.mk (below_step (by repeat (first | (with_reducible first | exact HB.out | apply below_alloc | apply pw_below_drewN | apply below_drew1) | exact HB.out)) hb); clear HB; have HO103 := n0_; have HB := n1_; clear n0_ n1_; (try clear hb); (try clear hb2); (try clear hk); (try clear hi); (try clear ho0)) | (go_at_call 19; (with_reducible refine (text_Runes.calls a1 t104 _ A4.out).mono ?_); rintro e w6 ⟨v105, rfl, ho0, hb⟩; have n0_ := Aside0.mk (Kd.R_elder' (by (with_reducible repeat (first | apply Kd.R_alloc | apply Kd.R_drewN | apply Kd.R_drew)); exact HO103.out) (Kd.R_base ho0) hb); have n1_ := Aside0.mk (Kd.R_lower (Kd.R_new' ho0 (Kd.R_lt (by (with_reducible repeat (first | apply Kd.R_alloc | apply Kd.R_drewN | apply Kd.R_drew)); exact HO103.out))) (below_size (by repeat (first | (with_reducible first | exact HB.out | apply below_alloc | apply pw_below_drewN | apply below_drew1) | exact HB.out)))); have n2_ := Aside0.mk (below_step (by repeat (first | (with_reducible first | exact HB.out | apply below_alloc | apply pw_below_drewN | apply below_drew1) | exact HB.out)) hb); clear HO103; clear HB; have HO103 := n0_; have HO106 := n1_; have HB := n2_; clear n0_ n1_ n2_; (try clear hb); (try clear hb2); (try clear hk); (try clear hi); (try clear ho0)))
  repeat (go_quiet (first | (go_at_call 19; (with_reducible refine (text_Runes.calls a0 t101 _ A3.out).mono ?_); rintro e w5 ⟨v102, rfl, ho0, hb⟩; have n0_ := Aside0.mk (Kd.R_lower ho0 (below_size (by repeat (first | (with_reducible first | exact HB.out | apply below_alloc | apply pw_below_drewN | apply below_drew1) | exact HB.out)))); have n1_ := Aside0.mk (below_step (by repeat (first | (with_reducible first | exact HB.out | apply below_alloc | apply pw_below_drewN | apply below_drew1) | exact HB.out)) hb); clear HB; have HO103 := n0_; have HB := n1_; clear n0_ n1_; (try clear hb); (try clear hb2); (try clear hk); (try clear hi); (try clear ho0)) | (go_at_call 19; (with_reducible refine (text_Runes.calls a1 t104 _ A4.out).mono ?_); rintro e w6 ⟨v105, rfl, ho0, hb⟩; have n0_ := Aside0.mk (Kd.R_elder' (by (with_reducible repeat (first | apply Kd.R_alloc | apply Kd.R_drewN | apply Kd.R_drew)); exact HO103.out) (Kd.R_base ho0) hb); have n1_ := Aside0.mk (Kd.R_lower (Kd.R_new' ho0 (Kd.R_lt (by (with_reducible repeat (first | apply Kd.R_alloc | apply Kd.R_drewN | apply Kd.R_drew)); exact HO103.out))) (below_size (by repeat (first | (with_reducible first | exact HB.out | apply below_alloc | apply pw_below_drewN | apply below_drew1) | exact HB.out)))); have n2_ := Aside0.mk (below_step (by repeat (first | (with_reducible first | exact HB.out | apply below_alloc | apply pw_below_drewN | apply below_drew1) | exact HB.out)) hb); clear HO103; clear HB; have HO103 := n0_; have HO106 := n1_; have HB := n2_; clear n0_ n1_ n2_; (try clear hb); (try clear hb2); (try clear hk); (try clear hi); (try clear ho0))); try go_wp2_with (first | (go_at_call 19; (with_reducible refine (text_Runes.calls a0 t101 _ A3.out).mono ?_); rintro e w5 ⟨v102, rfl, ho0, hb⟩; have n0_ := Aside0.mk (Kd.R_lower ho0 (below_size (by repeat (first | (with_reducible first | exact HB.out | apply below_alloc | apply pw_below_drewN | apply below_drew1) | exact HB.out)))); have n1_ := Aside0.mk (below_step (by repeat (first | (with_reducible first | exact HB.out | apply below_alloc | apply pw_below_drewN | apply below_drew1) | exact HB.out)) hb); clear HB; have HO103 := n0_; have HB := n1_; clear n0_ n1_; (try clear hb); (try clear hb2); (try clear hk); (try clear hi); (try clear ho0)) | (go_at_call 19; (with_reducible refine (text_Runes.calls a1 t104 _ A4.out).mono ?_); rintro e w6 ⟨v105, rfl, ho0, hb⟩; have n0_ := Aside0.mk (Kd.R_elder' (by (with_reducible repeat (first | apply Kd.R_alloc | apply Kd.R_drewN | apply Kd.R_drew)); exact HO103.out) (Kd.R_base ho0) hb); have n1_ := Aside0.mk (Kd.R_lower (Kd.R_new' ho0 (Kd.R_lt (by (with_reducible repeat (first | apply Kd.R_alloc | apply Kd.R_drewN | apply Kd.R_drew)); exact HO103.out))) (below_size (by repeat (first | (with_reducible first | exact HB.out | apply below_alloc | apply pw_below_drewN | apply below_drew1) | exact HB.out)))); have n2_ := Aside0.mk (below_step (by repeat (first | (with_reducible first | exact HB.out | apply below_alloc | apply pw_below_drewN | apply below_drew1) | exact HB.out)) hb); clear HO103; clear HB; have HO103 := n0_; have HO106 := n1_; have HB := n2_; clear n0_ n1_ n2_; (try clear hb); (try clear hb2); (try clear hk); (try clear hi); (try clear ho0))))
  go_loopg [7, 8, 9, 10] k (fun kq v7 v8 v9 v10 w' => ∃ (x7_1 : Int) (x8_1 : Int) (x9_1 : Int) (x10_1 : Int), v7 = .int .i64 x7_1 ∧ v8 = .int .i64 x8_1 ∧ v9 = .int .i64 x9_1 ∧ v10 = .int .i64 x10_1 ∧ Aside0 (text_Like.l0 kq t101 t104 x7_1 x8_1 x9_1 x10_1 = some r) ∧ Aside0 (kq ≤ k) ∧ Aside0 (Kd.R (Kd.int .i32) 21 w' w.heap.size (fun k_ => some k_ ≠ (v105 : Value).ownBlock) v102 t101) ∧ Aside0 (Kd.R (Kd.int .i32) 21 w' w.heap.size (fun k_ => some k_ ≠ (v102 : Value).ownBlock) v105 t104) ∧ Aside0 (Below w.heap.size w w'))
  case atStart => exact ⟨(0), (0), ((-1)), (0), (by first | rfl | (simp; done) | (simp [*]; done)), (by first | rfl | (simp; done) | (simp [*]; done)), (by first | rfl | (simp; done) | (simp [*]; done)), (by first | rfl | (simp; done) | (simp [*]; done)), H', ⟨Nat.le_refl _⟩, ⟨by (with_reducible repeat (first | apply Kd.R_alloc | apply Kd.R_drewN | apply Kd.R_drew)); exact Kd.R_mono HO103.out (fun _ hk => hk.2)⟩, ⟨by (with_reducible repeat (first | apply Kd.R_alloc | apply Kd.R_drewN | apply Kd.R_drew)); exact Kd.R_mono HO106.out (fun _ hk => hk.2)⟩, ⟨by repeat (first | (with_reducible first | exact HB.out | apply below_alloc | apply pw_below_drewN | apply below_drew1) | exact HB.out)⟩⟩
  case round =>
    clear H'
    try clear c1
    try clear p2
    obtain ⟨x7_1, x8_1, x9_1, x10_1, rfl, rfl, rfl, rfl, HA, HK1, HO_5, HO_6, HB⟩ := hrel
    cases gk with
    | zero => exact absurd HA.out (by simp [text_Like.l0])
    | succ k1 =>
      have H := HA.out
      clear HA
      simp only [text_Like.l0] at H
      by_cases c7 : x7_1 < (t101.length : Int)
      · rw [if_pos c7] at H
        have c7b0 : decide (x7_1 < (t101.length : Int)) = true := decide_eq_true c7
        clear c7
        have HC8 := Aside0.mk H
        clear H
        obtain ⟨Ao9, co9, eo9⟩ := Kd.R_slice HO_5.out
        subst eo9
        go_upto_region 5 with (fail)
        repeat (go_quiet (fail); go_upto_region 5 with (fail))
        go_cut [19] (fun v19 wc => ∃ (kq : Nat) (x19_7 : Bool), v19 = .bool x19_7 ∧ Aside0 (text_Like.j1 kq t101 t104 x7_1 x8_1 x9_1 x10_1 x19_7 = some r) ∧ Aside0 (kq ≤ k1) ∧ Aside0 (Kd.R (Kd.int .i32) 21 wc w.heap.size (fun k_ => some k_ ≠ (v105 : Value).ownBlock) (.slice Ao9 t101.length co9) t101) ∧ Aside0 (Kd.R (Kd.int .i32) 21 wc w.heap.size (fun k_ => some k_ ≠ ((.slice Ao9 t101.length co9) : Value).ownBlock) v105 t104) ∧ Aside0 (Below w.heap.size w wc))
        case first =>
          have H := HC8.out
          clear HC8
          by_cases c10 : x8_1 < (t104.length : Int)
          · rw [if_pos c10] at H
            have c10b0 : decide (x8_1 < (t104.length : Int)) = true := decide_eq_true c10
            clear c10
            (first | rw [c10b0] | (simp only [i64_w, i32_w]; rw [c10b0]) | skip)
            by_cases c11 : 0 ≤ x8_1
            · rw [if_pos c11] at H
              have c11b0 : decide (0 ≤ x8_1) = true := decide_eq_true c11
              clear c11
              have H' := Aside0.mk H
              clear H
              obtain ⟨Ao12, co12, eo12⟩ := Kd.R_slice HO_6.out
              subst eo12
              have p107 : 0 ≤ (x8_1 : Int) := of_decide_eq_true (by first | (with_reducible assumption) | assumption)
              have q107 : x8_1 < (t104.length : Int) := of_decide_eq_true (by first | (with_reducible assumption) | assumption)
              obtain ⟨ad107, e107, hx107_0⟩ := Kd.at_int (Kd.R_reads' HO_6.out).2.2 x8_1 p107 q107
              cases e107
              replace p107 := eq_true p107
              replace q107 := eq_true q107
              go_wp2
              repeat (go_quiet (fail); try go_wp2)
              go_meet
              case rel => exact ⟨_, (((rd t104 x8_1) == 42)), (by first | rfl | (simp; done) | (simp [*]; done)), H', ⟨by have := HK1.out; first | omega | exact Nat.le_refl _⟩, ⟨by (with_reducible repeat (first | apply Kd.R_alloc | apply Kd.R_drewN | apply Kd.R_drew)); exact HO_5.out⟩, ⟨by (with_reducible repeat (first | apply Kd.R_alloc | apply Kd.R_drewN | apply Kd.R_drew)); exact HO_6.out⟩, ⟨by repeat (first | (with_reducible first | exact HB.out | apply below_alloc | apply pw_below_drewN | apply below_drew1) | exact HB.out)⟩⟩
            · rw [if_neg c11] at H
              exact absurd H (by simp)
          · rw [if_neg c10] at H
            have c10b0 : decide (x8_1 < (t104.length : Int)) = false := decide_eq_false c10
            clear c10
            (first | rw [c10b0] | (simp only [i64_w, i32_w]; rw [c10b0]) | skip)
            have H' := Aside0.mk H
            clear H
            obtain ⟨Ao13, co13, eo13⟩ := Kd.R_slice HO_6.out
            subst eo13
            go_wp2
            repeat (go_quiet (fail); try go_wp2)
            go_meet
            case rel => exact ⟨_, (false), (by first | rfl | (simp; done) | (simp [*]; done)), H', ⟨by have := HK1.out; first | omega | exact Nat.le_refl _⟩, ⟨by (with_reducible repeat (first | apply Kd.R_alloc | apply Kd.R_drewN | apply Kd.R_drew)); exact HO_5.out⟩, ⟨by (with_reducible repeat (first | apply Kd.R_alloc | apply Kd.R_drewN | apply Kd.R_drew)); exact HO_6.out⟩, ⟨by repeat (first | (with_reducible first | exact HB.out | apply below_alloc | apply pw_below_drewN | apply below_drew1) | exact HB.out)⟩⟩
        case rest =>
          clear HC8
          try clear c1
          try clear p1
          try clear q1
          try clear hx1
          try clear p2
          try clear c7
          try clear c7b0
          try clear c10
          try clear c10b0
          try clear p10
          try clear q10
          try clear hx10
          try clear c11
          try clear c11b0
          try clear hx107_0
          try clear p107
          try clear p2
          try clear q107
          obtain ⟨kq, x19_7, rfl, HA, HJ7, HO_5, HO_6, HB⟩ := hcut
          cases kq with
          | zero => exact absurd HA.out (by simp [text_Like.j1])
          | succ kj7 =>
            have H := HA.out
            clear HA
            simp only [text_Like.j1] at H
            by_cases c14 : x19_7 = true
            · subst c14
              have H1 : (text_Like.l0 kj7 t101 t104 x7_1 (wrap64 (x8_1 + 1)) x8_1 x7_1) = some r := by rw [if_pos rfl] at H; exact H
              clear H
              have H := H1
              clear H1
              have H' := Aside0.mk H
              clear H
              go_wp2
              repeat (go_quiet (fail); try go_wp2)
              go_roundg kj7
              case measure => have := HK1.out; have := HJ7.out; omega
              case rel => exact ⟨(x7_1), (wrap64 (x8_1 + 1)), (x8_1), (x7_1), (by first | rfl | (simp; done) | (simp [*]; done)), (by first | rfl | (simp; done) | (simp [*]; done)), (by first | rfl | (simp; done) | (simp [*]; done)), (by first | rfl | (simp; done) | (simp [*]; done)), H', ⟨by have := HK1.out; have := HJ7.out; omega⟩, ⟨by (with_reducible repeat (first | apply Kd.R_alloc | apply Kd.R_drewN | apply Kd.R_drew)); exact HO_5.out⟩, ⟨by (with_reducible repeat (first | apply Kd.R_alloc | apply Kd.R_drewN | apply Kd.R_drew)); exact HO_6.out⟩, ⟨by repeat (first | (with_reducible first | exact HB.out | apply below_alloc | apply pw_below_drewN | apply below_drew1) | exact HB.out)⟩⟩
            · replace c14 := Bool.eq_false_iff.mpr c14
              subst c14
              have H1 : (if x8_1 < (t104.length : Int) then (if 0 ≤ x8_1 then (if 0 ≤ x7_1 then (if x7_1 < (t101.length : Int) then (text_Like.j2 kj7 t101 t104 x7_1 x8_1 x9_1 x10_1 ((rd t104 x8_1) == (rd t101 x7_1))) else (none)) else (none)) else (none)) else (text_Like.j2 kj7 t101 t104 x7_1 x8_1 x9_1 x10_1 false)) = some r := by rw [if_neg (show ¬ (false = true) by decide)] at H; exact H
              clear H
              have H := H1
              clear H1
              have HC15 := Aside0.mk H
              clear H
              go_upto_region 8 with (fail)
              repeat (go_quiet (fail); go_upto_region 8 with (fail))
              go_cut [35] (fun v35 wc => ∃ (kq : Nat) (x35_14 : Bool), v35 = .bool x35_14 ∧ Aside0 (text_Like.j2 kq t101 t104 x7_1 x8_1 x9_1 x10_1 x35_14 = some r) ∧ Aside0 (kq ≤ kj7) ∧ Aside0 (Kd.R (Kd.int .i32) 21 wc w.heap.size (fun k_ => some k_ ≠ (v105 : Value).ownBlock) (.slice Ao9 t101.length co9) t101) ∧ Aside0 (Kd.R (Kd.int .i32) 21 wc w.heap.size (fun k_ => some k_ ≠ ((.slice Ao9 t101.length co9) : Value).ownBlock) v105 t104) ∧ Aside0 (Below w.heap.size w wc))
              case first =>
                have H := HC15.out
                clear HC15
                by_cases c16 : x8_1 < (t104.length : Int)
                · rw [if_pos c16] at H
                  have c16b0 : decide (x8_1 < (t104.length : Int)) = true := decide_eq_true c16
                  clear c16
                  (first | rw [c16b0] | (simp only [i64_w, i32_w]; rw [c16b0]) | skip)
                  by_cases c17 : 0 ≤ x8_1
                  · rw [if_pos c17] at H
                    have c17b0 : decide (0 ≤ x8_1) = true := decide_eq_true c17
                    clear c17
                    by_cases c18 : 0 ≤ x7_1
                    · rw [if_pos c18] at H
                      have c18b0 : decide (0 ≤ x7_1) = true := decide_eq_true c18
                      clear c18
                      by_cases c19 : x7_1 < (t101.length : Int)
                      · rw [if_pos c19] at H
                        have c19b0 : decide (x7_1 < (t101.length : Int)) = true := decide_eq_true c19
                        clear c19
                        have H' := Aside0.mk H
                        clear H
                        obtain ⟨Ao20, co20, eo20⟩ := Kd.R_slice HO_6.out
                        subst eo20
                        have p108 : 0 ≤ (x8_1 : Int) := of_decide_eq_true (by first | (with_reducible assumption) | assumption)
                        have q108 : x8_1 < (t104.length : Int) := of_decide_eq_true (by first | (with_reducible assumption) | assumption)
                        obtain ⟨ad108, e108, hx108_0⟩ := Kd.at_int (Kd.R_reads' HO_6.out).2.2 x8_1 p108 q108
                        cases e108
                        replace p108 := eq_true p108
                        replace q108 := eq_true q108
                        have p109 : 0 ≤ (x7_1 : Int) := of_decide_eq_true (by first | (with_reducible assumption) | assumption)
                        have q109 : x7_1 < (t101.length : Int) := of_decide_eq_true (by first | (with_reducible assumption) | assumption)
                        obtain ⟨ad109, e109, hx109_0⟩ := Kd.at_int (Kd.R_reads' HO_5.out).2.2 x7_1 p109 q109
                        cases e109
                        replace p109 := eq_true p109
                        replace q109 := eq_true q109
                        go_wp2
                        repeat (go_quiet (fail); try go_wp2)
                        go_meet
                        case rel => exact ⟨_, (((rd t104 x8_1) == (rd t101 x7_1))), (by first | rfl | (simp; done) | (simp [*]; done)), H', ⟨by have := HK1.out; have := HJ7.out; first | omega | exact Nat.le_refl _⟩, ⟨by (with_reducible repeat (first | apply Kd.R_alloc | apply Kd.R_drewN | apply Kd.R_drew)); exact HO_5.out⟩, ⟨by (with_reducible repeat (first | apply Kd.R_alloc | apply Kd.R_drewN | apply Kd.R_drew)); exact HO_6.out⟩, ⟨by repeat (first | (with_reducible first | exact HB.out | apply below_alloc | apply pw_below_drewN | apply below_drew1) | exact HB.out)⟩⟩
                      · rw [if_neg c19] at H
                        exact absurd H (by simp)
                    · rw [if_neg c18] at H
                      exact absurd H (by simp)
                  · rw [if_neg c17] at H
                    exact absurd H (by simp)
                · rw [if_neg c16] at H
                  have c16b0 : decide (x8_1 < (t104.length : Int)) = false := decide_eq_false c16
                  clear c16
                  (first | rw [c16b0] | (simp only [i64_w, i32_w]; rw [c16b0]) | skip)
                  have H' := Aside0.mk H
                  clear H
                  obtain ⟨Ao21, co21, eo21⟩ := Kd.R_slice HO_6.out
                  subst eo21
                  go_wp2
                  repeat (go_quiet (fail); try go_wp2)
                  go_meet
                  case rel => exact ⟨_, (false), (by first | rfl | (simp; done) | (simp [*]; done)), H', ⟨by have := HK1.out; have := HJ7.out; first | omega | exact Nat.le_refl _⟩, ⟨by (with_reducible repeat (first | apply Kd.R_alloc | apply Kd.R_drewN | apply Kd.R_drew)); exact HO_5.out⟩, ⟨by (with_reducible repeat (first | apply Kd.R_alloc | apply Kd.R_drewN | apply Kd.R_drew)); exact HO_6.out⟩, ⟨by repeat (first | (with_reducible first | exact HB.out | apply below_alloc | apply pw_below_drewN | apply below_drew1) | exact HB.out)⟩⟩
              case rest =>
                clear HC15
                try clear c1
                try clear p1
                try clear q1
                try clear hx1
                try clear p2
                try clear p6
                try clear c7
                try clear c7b0
                try clear c10
                try clear c10b0
                try clear p10
                try clear q10
                try clear hx10
                try clear c11
                try clear c11b0
                try clear c14
                try clear c16
                try clear c16b0
                try clear c17
                try clear c17b0
                try clear c18
                try clear c18b0
                try clear c19
                try clear c19b0
                try clear hx107_0
                try clear hx108_0
                try clear hx109_0
                try clear p1
                try clear p10
                try clear p107
                try clear p108
                try clear p109
                try clear p2
                try clear q1
                try clear q10
                try clear q107
                try clear q108
                try clear q109
                obtain ⟨kq, x35_14, rfl, HA, HJ14, HO_5, HO_6, HB⟩ := hcut
                cases kq with
                | zero => exact absurd HA.out (by simp [text_Like.j2])
                | succ kj14 =>
                  have H := HA.out
                  clear HA
                  simp only [text_Like.j2] at H
                  by_cases c22 : x35_14 = true
                  · subst c22
                    have H1 : (text_Like.l0 kj14 t101 t104 (wrap64 (x7_1 + 1)) (wrap64 (x8_1 + 1)) x9_1 x10_1) = some r := by rw [if_pos rfl] at H; exact H
                    clear H
                    have H := H1
                    clear H1
                    have H' := Aside0.mk H
                    clear H
                    go_wp2
                    repeat (go_quiet (fail); try go_wp2)
                    go_roundg kj14
                    case measure => have := HK1.out; have := HJ7.out; have := HJ14.out; omega
                    case rel => exact ⟨(wrap64 (x7_1 + 1)), (wrap64 (x8_1 + 1)), (x9_1), (x10_1), (by first | rfl | (simp; done) | (simp [*]; done)), (by first | rfl | (simp; done) | (simp [*]; done)), (by first | rfl | (simp; done) | (simp [*]; done)), (by first | rfl | (simp; done) | (simp [*]; done)), H', ⟨by have := HK1.out; have := HJ7.out; have := HJ14.out; omega⟩, ⟨by (with_reducible repeat (first | apply Kd.R_alloc | apply Kd.R_drewN | apply Kd.R_drew)); exact HO_5.out⟩, ⟨by (with_reducible repeat (first | apply Kd.R_alloc | apply Kd.R_drewN | apply Kd.R_drew)); exact HO_6.out⟩, ⟨by repeat (first | (with_reducible first | exact HB.out | apply below_alloc | apply pw_below_drewN | apply below_drew1) | exact HB.out)⟩⟩
                  · replace c22 := Bool.eq_false_iff.mpr c22
                    subst c22
                    have H1 : (if x9_1 ≥ 0 then (text_Like.l0 kj14 t101 t104 (wrap64 (x10_1 + 1)) (wrap64 (x9_1 + 1)) x9_1 (wrap64 (x10_1 + 1))) else (some false)) = some r := by rw [if_neg (show ¬ (false = true) by decide)] at H; exact H
                    clear H
                    have H := H1
                    clear H1
                    by_cases c23 : x9_1 ≥ 0
                    · rw [if_pos c23] at H
                      have c23b0 : decide (0 ≤ x9_1) = true := decide_eq_true c23
                      clear c23
                      have H' := Aside0.mk H
                      clear H
                      go_wp2
                      repeat (go_quiet (fail); try go_wp2)
                      go_roundg kj14
                      case measure => have := HK1.out; have := HJ7.out; have := HJ14.out; omega
                      case rel => exact ⟨(wrap64 (x10_1 + 1)), (wrap64 (x9_1 + 1)), (x9_1), (wrap64 (x10_1 + 1)), (by first | rfl | (simp; done) | (simp [*]; done)), (by first | rfl | (simp; done) | (simp [*]; done)), (by first | rfl | (simp; done) | (simp [*]; done)), (by first | rfl | (simp; done) | (simp [*]; done)), H', ⟨by have := HK1.out; have := HJ7.out; have := HJ14.out; omega⟩, ⟨by (with_reducible repeat (first | apply Kd.R_alloc | apply Kd.R_drewN | apply Kd.R_drew)); exact HO_5.out⟩, ⟨by (with_reducible repeat (first | apply Kd.R_alloc | apply Kd.R_drewN | apply Kd.R_drew)); exact HO_6.out⟩, ⟨by repeat (first | (with_reducible first | exact HB.out | apply below_alloc | apply pw_below_drewN | apply below_drew1) | exact HB.out)⟩⟩
                    · rw [if_neg c23] at H
                      have c23b0 : decide (0 ≤ x9_1) = false := decide_eq_false c23
                      clear c23
                      obtain rfl := Option.some.inj H
                      go_wp2
                      repeat (go_quiet (fail); try go_wp2)
                      go_ret
                      exact ⟨by first | rfl | (simp [errW_none, errW_some] <;> rfl) | (simp [*, errW_none, errW_some] <;> rfl), by repeat (first | (with_reducible first | exact HB.out | apply below_alloc | apply pw_below_drewN | apply below_drew1) | exact HB.out)⟩
      · rw [if_neg c7] at H
        have c7b0 : decide (x7_1 < (t101.length : Int)) = false := decide_eq_false c7
        clear c7
        have H' := Aside0.mk H
        clear H
        obtain ⟨Ao24, co24, eo24⟩ := Kd.R_slice HO_5.out
        subst eo24
        go_wp2
        repeat (go_quiet (fail); try go_wp2)
        go_loopg [8] k1 (fun kq v8 w' => ∃ (x8_2 : Int), v8 = .int .i64 x8_2 ∧ Aside0 (text_Like.l1 kq t104 x8_2 = some r) ∧ Aside0 (kq ≤ k1) ∧ Aside0 (Kd.R (Kd.int .i32) 21 w' w.heap.size (fun _ => True) v105 t104) ∧ Aside0 (Below w.heap.size w w'))
        case atStart => exact ⟨(x8_1), (by first | rfl | (simp; done) | (simp [*]; done)), H', ⟨Nat.le_refl _⟩, ⟨by (with_reducible repeat (first | apply Kd.R_alloc | apply Kd.R_drewN | apply Kd.R_drew)); exact Kd.R_mono HO_6.out (fun _ hk => trivial)⟩, ⟨by repeat (first | (with_reducible first | exact HB.out | apply below_alloc | apply pw_below_drewN | apply below_drew1) | exact HB.out)⟩⟩
        case round =>
          clear H'
          try clear c1
          try clear p1
          try clear q1
          try clear hx1
          try clear c2
          try clear p2
          try clear p6
          try clear c7
          try clear c7b0
          try clear c10
          try clear c10b0
          try clear p10
          try clear q10
          try clear hx10
          try clear c11
          try clear c11b0
          try clear c14
          try clear c16
          try clear c16b0
          try clear c17
          try clear c17b0
          try clear c18
          try clear c18b0
          try clear c19
          try clear c19b0
          try clear c22
          try clear c23
          try clear c23b0
          try clear hx107_0
          try clear hx108_0
          try clear hx109_0
          try clear p1
          try clear p10
          try clear p107
          try clear p108
          try clear p109
          try clear p2
          try clear p6
          try clear q1
          try clear q10
          try clear q107
          try clear q108
          try clear q109
          obtain ⟨x8_2, rfl, HA, HK2, HO_6, HB⟩ := hrel
          cases gk with
          | zero => exact absurd HA.out (by simp [text_Like.l1])
          | succ k2 =>
            have H := HA.out
            clear HA
            simp only [text_Like.l1] at H
            by_cases c25 : x8_2 < (t104.length : Int)
            · rw [if_pos c25] at H
              have c25b0 : decide (x8_2 < (t104.length : Int)) = true := decide_eq_true c25
              clear c25
              by_cases c26 : 0 ≤ x8_2
              · rw [if_pos c26] at H
                have c26b0 : decide (0 ≤ x8_2) = true := decide_eq_true c26
                clear c26
                by_cases c27 : (rd t104 x8_2) = 42
                · rw [if_pos c27] at H
                  have c27b0 : ((rd t104 x8_2) == 42) = true := beq_iff_eq.mpr c27
                  have c27b1 : ((rd t104 x8_2) != 42) = false := bne_eq_false_iff_eq.mpr c27
                  clear c27
                  have H' := Aside0.mk H
                  clear H
                  obtain ⟨Ao28, co28, eo28⟩ := Kd.R_slice HO_6.out
                  subst eo28
                  have p110 : 0 ≤ (x8_2 : Int) := of_decide_eq_true (by first | (with_reducible assumption) | assumption)
                  have q110 : x8_2 < (t104.length : Int) := of_decide_eq_true (by first | (with_reducible assumption) | assumption)
                  obtain ⟨ad110, e110, hx110_0⟩ := Kd.at_int (Kd.R_reads' HO_6.out).2.2 x8_2 p110 q110
                  cases e110
                  replace p110 := eq_true p110
                  replace q110 := eq_true q110
                  go_wp2
                  repeat (go_quiet (fail); try go_wp2)
                  go_roundg k2
                  case measure => have := HK1.out; have := HK2.out; omega
                  case rel => exact ⟨(wrap64 (x8_2 + 1)), (by first | rfl | (simp; done) | (simp [*]; done)), H', ⟨by have := HK1.out; have := HK2.out; omega⟩, ⟨by (with_reducible repeat (first | apply Kd.R_alloc | apply Kd.R_drewN | apply Kd.R_drew)); exact HO_6.out⟩, ⟨by repeat (first | (with_reducible first | exact HB.out | apply below_alloc | apply pw_below_drewN | apply below_drew1) | exact HB.out)⟩⟩
                · rw [if_neg c27] at H
                  have c27b0 : ((rd t104 x8_2) == 42) = false := beq_eq_false_iff_ne.mpr c27
                  have c27b1 : ((rd t104 x8_2) != 42) = true := bne_iff_ne.mpr c27
                  obtain rfl := Option.some.inj H
                  obtain ⟨Ao29, co29, eo29⟩ := Kd.R_slice HO_6.out
                  subst eo29
                  have p110 : 0 ≤ (x8_2 : Int) := of_decide_eq_true (by first | (with_reducible assumption) | assumption)
                  have q110 : x8_2 < (t104.length : Int) := of_decide_eq_true (by first | (with_reducible assumption) | assumption)
                  obtain ⟨ad110, e110, hx110_0⟩ := Kd.at_int (Kd.R_reads' HO_6.out).2.2 x8_2 p110 q110
                  cases e110
                  replace p110 := eq_true p110
                  replace q110 := eq_true q110
                  go_wp2
                  repeat (go_quiet (fail); try go_wp2)
                  go_ret
                  exact ⟨by first | rfl | (simp [errW_none, errW_some] <;> rfl) | (simp [*, errW_none, errW_some] <;> rfl), by repeat (first | (with_reducible first | exact HB.out | apply below_alloc | apply pw_below_drewN | apply below_drew1) | exact HB.out)⟩
              · rw [if_neg c26] at H
                exact absurd H (by simp)
            · rw [if_neg c25] at H
              have c25b0 : decide (x8_2 < (t104.length : Int)) = false := decide_eq_false c25
              clear c25
              obtain rfl := Option.some.inj H
              obtain ⟨Ao30, co30, eo30⟩ := Kd.R_slice HO_6.out
              subst eo30
              go_wp2
              repeat (go_quiet (fail); try go_wp2)
              go_ret
              exact ⟨by first | rfl | (simp [errW_none, errW_some] <;> rfl) | (simp [*, errW_none, errW_some] <;> rfl), by repeat (first | (with_reducible first | exact HB.out | apply below_alloc | apply pw_below_drewN | apply below_drew1) | exact HB.out)⟩

/-! ### text_shown: function 34, given -/
/-- A rune as it is quoted. -/
def shownL (r : Int) : List UInt8 :=
  if r = 92 then [92, 92] else if r = 34 then [92, 34] else if r = 10 then [92, 110] else if r = 9 then [92, 116]
  else if r < 32 ∨ r = 127 then [92, 117, 123] ++ hexL r.toNat ++ [125] else (Utf8.encode r).data.toList
def text_shown.f (a0 : Int) : Option (ByteArray) := if 0 ≤ a0 then some ⟨(shownL a0).toArray⟩ else none
theorem text_shown.app (l : List UInt8) : (⟨#[92, 117, 123]⟩ : ByteArray) ++ (⟨l.toArray⟩ : ByteArray) ++ (⟨#[125]⟩ : ByteArray) = ⟨([92, 117, 123] ++ l ++ [125]).toArray⟩ := by
  apply ByteArray.ext
  apply Array.toList_inj.1
  rw [Go.Joins.data_append, Go.Joins.data_append]
theorem text_shown.enc (r : Int) : (⟨(Utf8.encode r).data.toList.toArray⟩ : ByteArray) = Utf8.encode r := by
  apply ByteArray.ext
  simp
set_option maxHeartbeats 1000000 in
theorem text_shown.calls (a0 : Int) (r : ByteArray) (w : World) (h : text_shown.f a0 = some r) (hT : Tb w) :
    Calls Tryd.prog 34 #[.int .i32 a0] w fun e w' => e = .returned (.string r) ∧ Below w.heap.size w w' := by
  unfold text_shown.f at h
  by_cases h0 : 0 ≤ a0
  case neg => rw [if_neg h0] at h; cases h
  rw [if_pos h0] at h
  obtain rfl := Option.some.inj h
  clear h
  unfold shownL
  by_cases h1 : a0 = 92
  · subst h1
    go_enter Tryd.func34, Tryd.ntmps34
    go_wp2
    go_ret
    exact ⟨rfl, Below.refl _ _⟩
  rw [if_neg h1]
  by_cases h2 : a0 = 34
  · subst h2
    go_enter Tryd.func34, Tryd.ntmps34
    go_wp2
    go_ret
    exact ⟨rfl, Below.refl _ _⟩
  rw [if_neg h2]
  by_cases h3 : a0 = 10
  · subst h3
    go_enter Tryd.func34, Tryd.ntmps34
    go_wp2
    go_ret
    exact ⟨rfl, Below.refl _ _⟩
  rw [if_neg h3]
  by_cases h4 : a0 = 9
  · subst h4
    go_enter Tryd.func34, Tryd.ntmps34
    go_wp2
    go_ret
    exact ⟨rfl, Below.refl _ _⟩
  rw [if_neg h4]
  have b1 : (a0 == 92) = false := beq_eq_false_iff_ne.mpr h1
  have b2 : (a0 == 34) = false := beq_eq_false_iff_ne.mpr h2
  have b3 : (a0 == 10) = false := beq_eq_false_iff_ne.mpr h3
  have b4 : (a0 == 9) = false := beq_eq_false_iff_ne.mpr h4
  by_cases h5 : a0 < 32 ∨ a0 = 127
  · rw [if_pos h5]
    have ha : a0 < 256 := by omega
    have happ := Lib.hid (text_shown.app (hexL a0.toNat))
    have hlen : (hexL a0.toNat).length ≤ 2 := by unfold hexL; split <;> simp
    by_cases h6 : a0 < 32
    · have b5 : decide (a0 < 32) = true := decide_eq_true h6
      clear h1 h2 h3 h4 h5
      go_enter Tryd.func34, Tryd.ntmps34
      go_wp2_with (go_at_call 43; (with_reducible refine (fmt_pub a0 _ h0 ha hT).mono ?_); rintro e w' ⟨rfl, hb⟩)
      go_ret
      exact ⟨congrArg (fun x => Ending.returned (.string x)) happ.out, hb⟩
    · have b5 : decide (a0 < 32) = false := decide_eq_false h6
      have b6 : (a0 == 127) = true := beq_iff_eq.mpr (by omega)
      clear h1 h2 h3 h4 h5 h6
      go_enter Tryd.func34, Tryd.ntmps34
      go_wp2_with (go_at_call 43; (with_reducible refine (fmt_pub a0 _ h0 ha hT).mono ?_); rintro e w' ⟨rfl, hb⟩)
      go_ret
      exact ⟨congrArg (fun x => Ending.returned (.string x)) happ.out, hb⟩
  · rw [if_neg h5]
    have b5 : decide (a0 < 32) = false := decide_eq_false (fun h => h5 (.inl h))
    have b6 : (a0 == 127) = false := beq_eq_false_iff_ne.mpr (fun h => h5 (.inr h))
    rw [text_shown.enc]
    clear h1 h2 h3 h4 h5
    go_enter Tryd.func34, Tryd.ntmps34
    go_wp2
    go_ret
    exact ⟨rfl, Below.refl _ _⟩

/-! ### text_Quote: function 22, given -/
/-- What is quoted, from a place on. -/
def quoteFrom (s : ByteArray) : Nat → Nat → List UInt8
  | 0, _ => []
  | fuel + 1, pos => if pos < s.size then shownL ((Utf8.decode s pos).1 : Int) ++ quoteFrom s fuel (pos + (Utf8.decode s pos).2) else []
theorem quoteFrom_end (s : ByteArray) (fuel pos : Nat) (h : ¬ pos < s.size) : quoteFrom s fuel pos = [] := by
  cases fuel with
  | zero => rfl
  | succ f => simp only [quoteFrom]; rw [if_neg h]
def text_Quote.f (a0 : ByteArray) : Option (ByteArray) := if a0.size < 1099511627776 then some ⟨(34 :: (quoteFrom a0 a0.size 0 ++ [34])).toArray⟩ else none
theorem text_Quote.width (s : ByteArray) (pos : Nat) (h : pos < s.size) : 1 ≤ (Utf8.decode s pos).2 := by
  by_cases ha : (s[pos]'h).toNat < 128
  · rw [decode_ascii s pos h ha]
    exact Nat.le_refl _
  · exact (decode_high s pos h (by omega)).2
theorem text_Quote.width4 (s : ByteArray) (pos : Nat) : (Utf8.decode s pos).2 ≤ 4 := by
  simp only [Utf8.decode]
  repeat' split
  all_goals simp
/-- A builder stays one where no old block has turned. -/
theorem text_Quote.old {T e B b : Nat} {bs : List Value} {w w' : World} (h : Lib.IsBuilderF T e B b bs w) (hb : Below w.heap.size w w') : Lib.IsBuilderF T e B b bs w' := by
  have key : ∀ p, Lib.BuilderAtF T e B b p bs w → Lib.BuilderAtF T e B b p bs w' := by
    intro p h
    have hlt := h.lt
    obtain ⟨hB, v, hh, hown, hne⟩ := h
    exact ⟨hB, v, (hb.block b hlt).trans hh, hown.kept (row := none) ⟨hb.os, hb.tape, hb.output, hb.size, fun k hk _ => hb.block k hk⟩ (by cases v.ownBlock <;> simp), hne⟩
  exact h.elim (fun x => .inl (key _ x)) (fun x => .inr (key _ x))
theorem text_Quote.len (r : Int) : (shownL r).length ≤ 7 := by
  have hh : ∀ u, (hexL u).length ≤ 2 := by intro u; unfold hexL; split <;> simp
  have he : (Utf8.encode r).data.toList.length ≤ 4 := by
    unfold Utf8.encode
    simp only []
    repeat' split
    all_goals simp
  unfold shownL
  split
  · simp
  split
  · simp
  split
  · simp
  split
  · simp
  split
  · have := hh r.toNat; simp; omega
  · omega
set_option maxHeartbeats 4000000 in
theorem text_Quote.calls (a0 : ByteArray) (r : ByteArray) (w : World) (h : text_Quote.f a0 = some r) (hT : Tb w) :
    Calls Tryd.prog 22 #[.string a0] w fun e w' => e = .returned (.string r) ∧ Below w.heap.size w w' := by
  unfold text_Quote.f at h
  by_cases hs : a0.size < 1099511627776
  case neg => rw [if_neg hs] at h; cases h
  rw [if_pos hs] at h
  obtain rfl := Option.some.inj h
  clear h
  have hT' := Lib.hid hT
  clear hT
  have h0 := Lib.IsBuilderF.of (Lib.fresh_isBuilder 57 5 w)
  go_enter Tryd.func22, Tryd.ntmps22
  go_wp2_with (go_at_call 32; refine (Tryd.Builder_WriteRune_k w.heap.size w.heap.size _ 34 (by omega) (by omega) _ h0 (by simp) (by simp)).mono ?_; rintro e W1 ⟨rfl, h1, b1, k1⟩; refine Hid.out ?_)
  refine Lib.hid ?_
  have hI1 : Lib.IsBuilderF 57 5 w.heap.size w.heap.size (Lib.byteCells [34]) W1 := Or.inr h1
  have hB1 : Below w.heap.size w W1 := ((Below.refl _ _).alloc (Nat.le_refl _) _).trans b1
  have hK1 : w.heap.size < W1.heap.size := by have := h1.lt; exact this
  clear h0 h1 b1 k1
  go_wp2
  go_loopw [] (fun wr => ∃ (pos fuel : Nat) (acc : List UInt8), Lib.IsBuilderF 57 5 w.heap.size w.heap.size (Lib.byteCells acc) wr ∧ Hid (wr.heap[W1.heap.size]? = some (.stringIter a0 pos)) ∧ Below w.heap.size w wr ∧ Hid (acc ++ quoteFrom a0 fuel pos = 34 :: quoteFrom a0 a0.size 0) ∧ a0.size ≤ pos + fuel ∧ acc.length ≤ 1 + 7 * pos ∧ pos ≤ a0.size + 4) (fun wr => a0.size - wr.iterPos W1.heap.size)
  case atStart => exact ⟨0, a0.size, [34], hI1.alloc _, Lib.hid (World.iter_heap _ _ _), hB1.alloc (Nat.le_of_lt hK1) _, Lib.hid rfl, by omega, by simp, by omega⟩
  case round =>
    obtain ⟨pos, fuel, acc, hI, hit, hbw, hA, hfu, hal, hpl⟩ := hrel
    clear hI1 hB1
    have HM := Lib.hid (show wr.iterPos W1.heap.size = pos by simp [World.iterPos, hit.out])
    by_cases hp : pos < a0.size
    · have hnx := fun ty => Lib.run_next_any_at (P := Tryd.prog) wr W1.heap.size a0 pos ty hit.out hp
      have hwd := text_Quote.width a0 pos hp
      have hw4 := text_Quote.width4 a0 pos
      obtain ⟨f, rfl⟩ : ∃ f, fuel = f + 1 := ⟨fuel - 1, by omega⟩
      have ha := hA.out
      simp only [quoteFrom] at ha
      rw [if_pos hp] at ha
      have hit2 := Lib.hid (Lib.iterAt_heap wr W1.heap.size a0 pos (pos + (Utf8.decode a0 pos).2) hit.out)
      have hI2 := hI.iterAt hit.out (pos + (Utf8.decode a0 pos).2)
      have hbw2 := Lib.below_iterAt hbw (k := W1.heap.size) (Nat.le_of_lt hK1) a0 (pos + (Utf8.decode a0 pos).2)
      obtain ⟨c, hc⟩ : ∃ c : Int, ((Utf8.decode a0 pos).1 : Int) = c := ⟨_, rfl⟩
      have hc0 : 0 ≤ c := by omega
      obtain ⟨q, hq⟩ : ∃ q : Nat, (Utf8.decode a0 pos).2 = q := ⟨_, rfl⟩
      rw [hc, hq] at hnx ha
      rw [hq] at hit2 hI2 hbw2 hwd hw4
      have hsh := Lib.hid (show text_shown.f c = some ⟨(shownL c).toArray⟩ by unfold text_shown.f; rw [if_pos hc0])
      have hlen := text_Quote.len c
      clear hc hq hI hbw hit hA
      have HA2 := Lib.hid ha
      clear ha
      generalize wr.iterAt W1.heap.size a0 (pos + q) = wn at hnx hit2 hI2 hbw2
      have hszn := hbw2.size
      have hT2 := Lib.hid (hT'.out.below hbw2)
      go_wp2_with (go_at_call 34; refine (text_shown.calls c _ _ hsh.out hT2.out).mono ?_; rintro e W2 ⟨rfl, b2⟩; refine Hid.out ?_)
      refine Lib.hid ?_
      have hI3 := text_Quote.old hI2 b2
      have hit3 := Lib.hid ((b2.block _ (Array.getElem?_eq_some_iff.1 hit2.out).1).trans hit2.out)
      have hbw3 := hbw2.trans (b2.mono hszn)
      have hszm : w.heap.size ≤ W2.heap.size := Nat.le_trans hszn b2.size
      clear hI2 hit2 hbw2 b2 hszn hT2
      go_wp2_with (go_at_call 33; refine (Tryd.Builder_WriteString_k w.heap.size w.heap.size _ _ _ hI3 (by rw [Lib.byteCells_length]; show acc.length + (shownL c).length ≤ _; omega) hszm).mono ?_; rintro e W3 ⟨rfl, h4, b4, k4⟩; refine Hid.out ?_)
      refine Lib.hid ?_
      have hit5 := Lib.hid (k4.iter hit3.out (by omega))
      go_wp2
      go_roundw
      case rel =>
        refine ⟨pos + q, f, acc ++ shownL c, ?_, hit5, hbw3.trans b4, Lib.hid (by rw [List.append_assoc]; exact HA2.out), by omega, by rw [List.length_append]; omega, by omega⟩
        rw [Lib.byteCells_append]
        exact Or.inr h4
      case measure =>
        have e1 := HM.out
        have e2 := hit5.out
        simp only [World.iterPos] at *
        simp [e1, e2]
        omega
    · have hnx := fun ty => Lib.run_next_end_at (P := Tryd.prog) wr W1.heap.size a0 pos ty hit.out hp
      have ha := hA.out
      rw [quoteFrom_end a0 fuel pos hp, List.append_nil] at ha
      have HA2 := Lib.hid ha
      have hsz := hbw.size
      clear hA ha
      go_wp2_with (go_at_call 32; refine (Tryd.Builder_WriteRune_k w.heap.size w.heap.size _ 34 (by omega) (by omega) _ hI (by rw [Lib.byteCells_length]; omega) hsz).mono ?_; rintro e W2 ⟨rfl, h2, b2, k2⟩; refine Hid.out ?_)
      refine Lib.hid ?_
      have hI2 : Lib.IsBuilderF 57 5 w.heap.size w.heap.size (Lib.byteCells (acc ++ [34])) W2 := by rw [Lib.byteCells_append]; exact Or.inr h2
      have hszm : w.heap.size ≤ W2.heap.size := Nat.le_trans hsz b2.size
      go_wp2_with (go_at_call 35; refine (Tryd.Builder_String_any_k w.heap.size w.heap.size (acc ++ [34]) _ hI2 hszm).mono ?_; rintro e W3 ⟨rfl, _, b3, _⟩)
      go_ret
      refine ⟨?_, (hbw.trans b2).trans b3⟩
      rw [show acc ++ [34] = 34 :: (quoteFrom a0 a0.size 0 ++ [34]) by rw [HA2.out]; rfl]
      rfl

/-! ### chancellaw1_known: function 12 -/
def chancellaw1_known.f (k : Nat)  : Option (Bool) := (text_Like.f k (⟨#[97, 98, 99, 97, 98]⟩ : ByteArray) (⟨#[97, 42, 98]⟩ : ByteArray)).bind fun t111 => (if t111 = true then ((text_Like.f k (⟨#[97, 98, 99, 97]⟩ : ByteArray) (⟨#[97, 42, 98]⟩ : ByteArray)).bind fun t112 => (if t112 = true then (some false) else ((text_Quote.f (⟨#[7]⟩ : ByteArray)).bind fun t113 => (some (t113.toList == ([34, 92, 117, 123, 55, 125, 34] : List UInt8)))))) else (some false))
theorem chancellaw1_known.mono : ∀ k, LeO (chancellaw1_known.f k ) (chancellaw1_known.f (k + 1) ) := by
  intro  k
  unfold chancellaw1_known.f
  repeat' first
      | (with_reducible exact text_Like.mono _ _ _)
      | (with_reducible exact LeO.refl _)
      | (with_reducible exact LeO.none _)
      | (with_reducible refine LeO.ite ?_ ?_)
      | (with_reducible refine LeO.bind ?_ (fun _ => ?_))
      | exact text_Like.mono _ _ _
      | exact LeO.none _
      | refine LeO.ite ?_ ?_
      | refine LeO.bind ?_ (fun _ => ?_)
set_option maxHeartbeats 8000000 in
set_option maxRecDepth 100000 in
theorem chancellaw1_known.calls (k : Nat)  (r : Bool) (w : World) (h : chancellaw1_known.f k  = some r) (hT : Tb w) :
    Calls Tryd.prog 12 #[] w fun e w' => e = .returned (.bool r) ∧ Below w.heap.size w w' := by
  have HB := Aside0.mk (Below.refl w.heap.size w)
  have H : ((text_Like.f k (⟨#[97, 98, 99, 97, 98]⟩ : ByteArray) (⟨#[97, 42, 98]⟩ : ByteArray)).bind fun t111 => (if t111 = true then ((text_Like.f k (⟨#[97, 98, 99, 97]⟩ : ByteArray) (⟨#[97, 42, 98]⟩ : ByteArray)).bind fun t112 => (if t112 = true then (some false) else ((text_Quote.f (⟨#[7]⟩ : ByteArray)).bind fun t113 => (some (t113.toList == ([34, 92, 117, 123, 55, 125, 34] : List UInt8)))))) else (some false))) = some r := h
  clear h
  have HT := Aside0.mk hT
  clear hT
  replace H := Option.bind_eq_some_iff.mp H
  obtain ⟨t111, A10, H⟩ := H
  replace H : (if t111 = true then ((text_Like.f k (⟨#[97, 98, 99, 97]⟩ : ByteArray) (⟨#[97, 42, 98]⟩ : ByteArray)).bind fun t112 => (if t112 = true then (some false) else ((text_Quote.f (⟨#[7]⟩ : ByteArray)).bind fun t113 => (some (t113.toList == ([34, 92, 117, 123, 55, 125, 34] : List UInt8)))))) else (some false)) = some r := H
  have A1 := Aside0.mk A10
  clear A10
  by_cases c2 : t111 = true
  · subst c2
    have H1 : ((text_Like.f k (⟨#[97, 98, 99, 97]⟩ : ByteArray) (⟨#[97, 42, 98]⟩ : ByteArray)).bind fun t112 => (if t112 = true then (some false) else ((text_Quote.f (⟨#[7]⟩ : ByteArray)).bind fun t113 => (some (t113.toList == ([34, 92, 117, 123, 55, 125, 34] : List UInt8)))))) = some r := by rw [if_pos rfl] at H; exact H
    clear H
    have H := H1
    clear H1
    replace H := Option.bind_eq_some_iff.mp H
    obtain ⟨t112, A30, H⟩ := H
    replace H : (if t112 = true then (some false) else ((text_Quote.f (⟨#[7]⟩ : ByteArray)).bind fun t113 => (some (t113.toList == ([34, 92, 117, 123, 55, 125, 34] : List UInt8))))) = some r := H
    have A3 := Aside0.mk A30
    clear A30
    by_cases c4 : t112 = true
    · subst c4
      have H1 : (some false) = some r := by rw [if_pos rfl] at H; exact H
      clear H
      have H := H1
      clear H1
      obtain rfl := Option.some.inj H
      go_enter Tryd.func12, Tryd.ntmps12
      go_wp2_with (first | ((with_reducible refine gate_callee (f := 14) rfl ?_); refine goesL_ (some 1) rfl rfl Tryd.func14 (by kernel_rfl) rfl #[.string (⟨#[97, 98, 99, 97, 98]⟩ : ByteArray), .string (⟨#[97, 42, 98]⟩ : ByteArray)] rfl (by (try simp only [List.map_toArray, List.map_cons, List.map_nil]); first | done | rfl | (simp only [List.length_drop, List.length_take]; rfl)) ?_; (with_reducible refine (text_Like.calls k (⟨#[97, 98, 99, 97, 98]⟩ : ByteArray) (⟨#[97, 42, 98]⟩ : ByteArray) true _ A1.out).mono ?_); rintro e w5 ⟨rfl, hb⟩; refine ⟨_, rfl, ?_⟩; have n0_ := Aside0.mk (below_step (by repeat (first | (with_reducible first | exact HB.out | apply below_alloc | apply pw_below_drewN | apply below_drew1) | exact HB.out)) hb); clear HB; have HB := n0_; clear n0_; (try clear hb); (try clear hb2); (try clear hk); (try clear hi)) | (go_at_call 14; (with_reducible refine (text_Like.calls k (⟨#[97, 98, 99, 97]⟩ : ByteArray) (⟨#[97, 42, 98]⟩ : ByteArray) true _ A3.out).mono ?_); rintro e w6 ⟨rfl, hb⟩; have n0_ := Aside0.mk (below_step (by repeat (first | (with_reducible first | exact HB.out | apply below_alloc | apply pw_below_drewN | apply below_drew1) | exact HB.out)) hb); clear HB; have HB := n0_; clear n0_; (try clear hb); (try clear hb2); (try clear hk); (try clear hi)))
      go_ret
      exact ⟨by first | rfl | (simp [errW_none, errW_some] <;> rfl) | (simp [*, errW_none, errW_some] <;> rfl), by repeat (first | (with_reducible first | exact HB.out | apply below_alloc | apply pw_below_drewN | apply below_drew1) | exact HB.out)⟩
    · replace c4 := Bool.eq_false_iff.mpr c4
      subst c4
      have H1 : ((text_Quote.f (⟨#[7]⟩ : ByteArray)).bind fun t113 => (some (t113.toList == ([34, 92, 117, 123, 55, 125, 34] : List UInt8)))) = some r := by rw [if_neg (show ¬ (false = true) by decide)] at H; exact H
      clear H
      have H := H1
      clear H1
      replace H := Option.bind_eq_some_iff.mp H
      obtain ⟨t113, A70, H⟩ := H
      replace H : (some (t113.toList == ([34, 92, 117, 123, 55, 125, 34] : List UInt8))) = some r := H
      have A7 := Aside0.mk A70
      clear A70
      obtain rfl := Option.some.inj H
      go_enter Tryd.func12, Tryd.ntmps12
      go_wp2_with (first | ((with_reducible refine gate_callee (f := 14) rfl ?_); refine goesL_ (some 1) rfl rfl Tryd.func14 (by kernel_rfl) rfl #[.string (⟨#[97, 98, 99, 97, 98]⟩ : ByteArray), .string (⟨#[97, 42, 98]⟩ : ByteArray)] rfl (by (try simp only [List.map_toArray, List.map_cons, List.map_nil]); first | done | rfl | (simp only [List.length_drop, List.length_take]; rfl)) ?_; (with_reducible refine (text_Like.calls k (⟨#[97, 98, 99, 97, 98]⟩ : ByteArray) (⟨#[97, 42, 98]⟩ : ByteArray) true _ A1.out).mono ?_); rintro e w8 ⟨rfl, hb⟩; refine ⟨_, rfl, ?_⟩; have n0_ := Aside0.mk (below_step (by repeat (first | (with_reducible first | exact HB.out | apply below_alloc | apply pw_below_drewN | apply below_drew1) | exact HB.out)) hb); clear HB; have HB := n0_; clear n0_; (try clear hb); (try clear hb2); (try clear hk); (try clear hi)) | (go_at_call 14; (with_reducible refine (text_Like.calls k (⟨#[97, 98, 99, 97]⟩ : ByteArray) (⟨#[97, 42, 98]⟩ : ByteArray) false _ A3.out).mono ?_); rintro e w9 ⟨rfl, hb⟩; have n0_ := Aside0.mk (below_step (by repeat (first | (with_reducible first | exact HB.out | apply below_alloc | apply pw_below_drewN | apply below_drew1) | exact HB.out)) hb); clear HB; have HB := n0_; clear n0_; (try clear hb); (try clear hb2); (try clear hk); (try clear hi)) | (go_at_call 22; (with_reducible refine (text_Quote.calls (⟨#[7]⟩ : ByteArray) t113 _ A7.out ?side1).mono ?_); (case side1 => exact Tb.below HT.out (by repeat (first | (with_reducible first | exact HB.out | apply below_alloc | apply pw_below_drewN | apply below_drew1) | exact HB.out))); rintro e w10 ⟨rfl, hb⟩; have n0_ := Aside0.mk (below_step (by repeat (first | (with_reducible first | exact HB.out | apply below_alloc | apply pw_below_drewN | apply below_drew1) | exact HB.out)) hb); clear HB; have HB := n0_; clear n0_; (try clear hb); (try clear hb2); (try clear hk); (try clear hi)))
      go_ret
      exact ⟨by first | rfl | (simp [errW_none, errW_some] <;> rfl) | (simp [*, errW_none, errW_some] <;> rfl), by repeat (first | (with_reducible first | exact HB.out | apply below_alloc | apply pw_below_drewN | apply below_drew1) | exact HB.out)⟩
  · replace c2 := Bool.eq_false_iff.mpr c2
    subst c2
    have H1 : (some false) = some r := by rw [if_neg (show ¬ (false = true) by decide)] at H; exact H
    clear H
    have H := H1
    clear H1
    obtain rfl := Option.some.inj H
    go_enter Tryd.func12, Tryd.ntmps12
    go_wp2_with (first | ((with_reducible refine gate_callee (f := 14) rfl ?_); refine goesL_ (some 1) rfl rfl Tryd.func14 (by kernel_rfl) rfl #[.string (⟨#[97, 98, 99, 97, 98]⟩ : ByteArray), .string (⟨#[97, 42, 98]⟩ : ByteArray)] rfl (by (try simp only [List.map_toArray, List.map_cons, List.map_nil]); first | done | rfl | (simp only [List.length_drop, List.length_take]; rfl)) ?_; (with_reducible refine (text_Like.calls k (⟨#[97, 98, 99, 97, 98]⟩ : ByteArray) (⟨#[97, 42, 98]⟩ : ByteArray) false _ A1.out).mono ?_); rintro e w11 ⟨rfl, hb⟩; refine ⟨_, rfl, ?_⟩; have n0_ := Aside0.mk (below_step (by repeat (first | (with_reducible first | exact HB.out | apply below_alloc | apply pw_below_drewN | apply below_drew1) | exact HB.out)) hb); clear HB; have HB := n0_; clear n0_; (try clear hb); (try clear hb2); (try clear hk); (try clear hi)))
    go_ret
    exact ⟨by first | rfl | (simp [errW_none, errW_some] <;> rfl) | (simp [*, errW_none, errW_some] <;> rfl), by repeat (first | (with_reducible first | exact HB.out | apply below_alloc | apply pw_below_drewN | apply below_drew1) | exact HB.out)⟩

end Go.Proofs.YtapccgkkcgggiaaDoor.GB
