-- Written by wip/tools/gprint.py over the kit's printer.
import Derived.Test.YtapccgkkcgggiaaDoorGB0
namespace Go.Proofs.YtapccgkkcgggiaaDoor.GB
open Go.RowKit Go.Proofs.YtapccgkkcgggiaaDoorW.PrintWords Go.Proofs.YtapccgkkcgggiaaDoorW.PrintLast Go.Proofs.YtapccgkkcgggiaaDoor.HandB Go.Proofs.YtapccgkkcgggiaaDoorW.PrintMore
attribute [local go_sem] max2_int min2_int max_two min_two max_three min_three max_four min_four   -- for this text's walks alone
set_option linter.unusedVariables false
set_option linter.unusedSimpArgs false

/-! ### utf8_appendRuneNonASCII: function 44, given -/
def utf8_appendRuneNonASCII.f (l0 : List Int) (a1 : Int) : Option (List Int) := if 127 < a1 % 4294967296 ∧ l0.length + 4 ≤ 140737488355328 ∧ -2147483648 ≤ a1 ∧ a1 ≤ 2147483647 then some (l0 ++ Lib.encodeRuneZ a1) else none
theorem utf8_appendRuneNonASCII.lit (W : World) (l : List Int) (hl : l.length ≤ 4) :
    ReadsRow (fun (x : Int) cs => cs = [.int .u8 x]) 1 (W.alloc (.cells (l.map (Value.int .u8)).toArray 5)) (some ⟨W.heap.size, 0, none⟩) l.length l := by
  refine ⟨rfl, by omega, fun _ => ⟨_, rfl, fun j p hj => ⟨[.int .u8 p], rfl, rfl, fun i u hi => ?_⟩⟩⟩
  have hi0 : i = 0 := by
    cases i with
    | zero => rfl
    | succ i => simp at hi
  subst hi0
  have hu : u = Value.int .u8 p := by simpa using hi.symm
  subst hu
  have hA : (W.alloc (.cells (l.map (Value.int .u8)).toArray 5)).heap[W.heap.size]? = some (.cells (l.map (Value.int .u8)).toArray 5) := by
    show (W.heap.push _)[W.heap.size]? = _
    exact Array.getElem?_push_size
  have hb : ((⟨W.heap.size, 0, none⟩ : Addr).add (j * 1 + 0)) = ⟨W.heap.size, j, none⟩ := by
    by_cases h0 : j = 0
    · subst h0; rfl
    · simp [Addr.add, h0]
  rw [hb]
  unfold World.cell?
  rw [hA]
  simp [hj]
theorem utf8_appendRuneNonASCII.done (P0_ : Nat → Prop) (u9000_ : Value) (l0 l : List Int) (w0 w w1 : World) (o : Obj) (v1 : Value) (hB : Below w0.heap.size w0 w)
    (hbl : ∀ k, u9000_.ownBlock = some k → P0_ k)
    (hr : Kd.R (Kd.int .u8) 5 w1 w0.heap.size (fun k_ => P0_ k_ ∨ w.heap.size ≤ k_) v1 l) (hb : Below w0.heap.size w0 w1) (hg : (w.alloc o).grownBy w1 u9000_.ownBlock) :
    ∃ v0_ : Value, Ending.returned v1 = .returned v0_ ∧ Kd.R (Kd.int .u8) 5 w1 w0.heap.size (fun k_ => (P0_ k_ ∨ w.heap.size ≤ k_)) v0_ l ∧ Below w0.heap.size w0 w1 ∧ Kept w w1 (fun k_ => P0_ k_) :=
  ⟨v1, rfl, hr, hb, Kept.of_grown (S := fun k_ => P0_ k_) hg (Kept.alloc (Kept.refl w _) o) (fun k hk => .inl (hbl k hk))⟩
set_option maxHeartbeats 4000000 in
set_option maxRecDepth 100000 in
theorem utf8_appendRuneNonASCII.two (P0_ : Nat → Prop) (u9000_ : Value) (l0 : List Int) (a1 : Int) (h0 : 128 ≤ a1) (h1 : a1 ≤ 2047) (w0 w : World) (hB : Below w0.heap.size w0 w) (ho0 : Kd.R (Kd.int .u8) 5 w w0.heap.size P0_ u9000_ l0) (hl : l0.length + 4 ≤ 140737488355328) :
    Calls Tryd.prog 44 #[u9000_, .int .i32 a1] w fun e w' => ∃ v0_ : Value, e = .returned v0_ ∧ Kd.R (Kd.int .u8) 5 w' w0.heap.size (fun k_ => (P0_ k_ ∨ w.heap.size ≤ k_)) v0_ (l0 ++ [192 + a1 / 64, 128 + a1 % 64]) ∧ Below w0.heap.size w0 w' ∧ Kept w w' (fun k_ => P0_ k_) := by
  have HO := Kd.R_bound ho0
  have HF := utf8_appendRuneNonASCII.lit w [192 + a1 / 64, 128 + a1 % 64] (by simp)
  simp only [List.map_cons, List.map_nil] at HF
  go_enter Tryd.func44, Tryd.ntmps44
  go_wp2_with (at_builtin; refine Kd.R_append_rows (Kd.int .u8) (w0 := w0) w0.heap.size rfl _ _ 48 5 (.int .u8 0) 1 rfl Tryd.underlying48 info5 rfl (by decide) (by omega) u9000_ l0 [192 + a1 / 64, 128 + a1 % 64] _ 2 2 (fun k_ => P0_ k_ ∨ w.heap.size ≤ k_) (fun _ => False) rfl rfl ?aO HF (fun _ _ h => h) (fun _ h => h.elim) ?aF ?aB ?aS ?aL ?_)
  case aO => exact Kd.R_alloc (Kd.R_mono ho0 (fun _ h => .inl h)) _
  case aF => exact fun k hk => .inr (by first | omega | (simp at hk; omega))
  case aB => exact below_alloc hB _
  case aS => have := hB.size; first | omega | (simp; omega)
  case aL => first | omega | (simp; omega)
  intro v1 w1 hr1 hb1 hg1 _
  go_wp2
  go_ret
  exact utf8_appendRuneNonASCII.done P0_ u9000_ l0 _ w0 w w1 _ v1 hB ho0.1 hr1 hb1 hg1
set_option maxHeartbeats 4000000 in
set_option maxRecDepth 100000 in
theorem utf8_appendRuneNonASCII.lo (P0_ : Nat → Prop) (u9000_ : Value) (l0 : List Int) (a1 : Int) (h0 : 2048 ≤ a1) (h1 : a1 < 55296) (w0 w : World) (hB : Below w0.heap.size w0 w) (ho0 : Kd.R (Kd.int .u8) 5 w w0.heap.size P0_ u9000_ l0) (hl : l0.length + 4 ≤ 140737488355328) :
    Calls Tryd.prog 44 #[u9000_, .int .i32 a1] w fun e w' => ∃ v0_ : Value, e = .returned v0_ ∧ Kd.R (Kd.int .u8) 5 w' w0.heap.size (fun k_ => (P0_ k_ ∨ w.heap.size ≤ k_)) v0_ (l0 ++ [224 + a1 / 4096, 128 + a1 / 64 % 64, 128 + a1 % 64]) ∧ Below w0.heap.size w0 w' ∧ Kept w w' (fun k_ => P0_ k_) := by
  have HO := Kd.R_bound ho0
  have HF := utf8_appendRuneNonASCII.lit w [224 + a1 / 4096, 128 + a1 / 64 % 64, 128 + a1 % 64] (by simp)
  simp only [List.map_cons, List.map_nil] at HF
  go_enter Tryd.func44, Tryd.ntmps44
  go_wp2_with (at_builtin; refine Kd.R_append_rows (Kd.int .u8) (w0 := w0) w0.heap.size rfl _ _ 48 5 (.int .u8 0) 1 rfl Tryd.underlying48 info5 rfl (by decide) (by omega) u9000_ l0 [224 + a1 / 4096, 128 + a1 / 64 % 64, 128 + a1 % 64] _ 3 3 (fun k_ => P0_ k_ ∨ w.heap.size ≤ k_) (fun _ => False) rfl rfl ?aO HF (fun _ _ h => h) (fun _ h => h.elim) ?aF ?aB ?aS ?aL ?_)
  case aO => exact Kd.R_alloc (Kd.R_mono ho0 (fun _ h => .inl h)) _
  case aF => exact fun k hk => .inr (by first | omega | (simp at hk; omega))
  case aB => exact below_alloc hB _
  case aS => have := hB.size; first | omega | (simp; omega)
  case aL => first | omega | (simp; omega)
  intro v1 w1 hr1 hb1 hg1 _
  go_wp2
  go_ret
  exact utf8_appendRuneNonASCII.done P0_ u9000_ l0 _ w0 w w1 _ v1 hB ho0.1 hr1 hb1 hg1
set_option maxHeartbeats 4000000 in
set_option maxRecDepth 100000 in
theorem utf8_appendRuneNonASCII.hi (P0_ : Nat → Prop) (u9000_ : Value) (l0 : List Int) (a1 : Int) (h0 : 57343 < a1) (h1 : a1 ≤ 65535) (w0 w : World) (hB : Below w0.heap.size w0 w) (ho0 : Kd.R (Kd.int .u8) 5 w w0.heap.size P0_ u9000_ l0) (hl : l0.length + 4 ≤ 140737488355328) :
    Calls Tryd.prog 44 #[u9000_, .int .i32 a1] w fun e w' => ∃ v0_ : Value, e = .returned v0_ ∧ Kd.R (Kd.int .u8) 5 w' w0.heap.size (fun k_ => (P0_ k_ ∨ w.heap.size ≤ k_)) v0_ (l0 ++ [224 + a1 / 4096, 128 + a1 / 64 % 64, 128 + a1 % 64]) ∧ Below w0.heap.size w0 w' ∧ Kept w w' (fun k_ => P0_ k_) := by
  have HO := Kd.R_bound ho0
  have HF := utf8_appendRuneNonASCII.lit w [224 + a1 / 4096, 128 + a1 / 64 % 64, 128 + a1 % 64] (by simp)
  simp only [List.map_cons, List.map_nil] at HF
  go_enter Tryd.func44, Tryd.ntmps44
  go_wp2_with (at_builtin; refine Kd.R_append_rows (Kd.int .u8) (w0 := w0) w0.heap.size rfl _ _ 48 5 (.int .u8 0) 1 rfl Tryd.underlying48 info5 rfl (by decide) (by omega) u9000_ l0 [224 + a1 / 4096, 128 + a1 / 64 % 64, 128 + a1 % 64] _ 3 3 (fun k_ => P0_ k_ ∨ w.heap.size ≤ k_) (fun _ => False) rfl rfl ?aO HF (fun _ _ h => h) (fun _ h => h.elim) ?aF ?aB ?aS ?aL ?_)
  case aO => exact Kd.R_alloc (Kd.R_mono ho0 (fun _ h => .inl h)) _
  case aF => exact fun k hk => .inr (by first | omega | (simp at hk; omega))
  case aB => exact below_alloc hB _
  case aS => have := hB.size; first | omega | (simp; omega)
  case aL => first | omega | (simp; omega)
  intro v1 w1 hr1 hb1 hg1 _
  go_wp2
  go_ret
  exact utf8_appendRuneNonASCII.done P0_ u9000_ l0 _ w0 w w1 _ v1 hB ho0.1 hr1 hb1 hg1
set_option maxHeartbeats 4000000 in
set_option maxRecDepth 100000 in
theorem utf8_appendRuneNonASCII.four (P0_ : Nat → Prop) (u9000_ : Value) (l0 : List Int) (a1 : Int) (h0 : 65536 ≤ a1) (h1 : a1 ≤ 1114111) (w0 w : World) (hB : Below w0.heap.size w0 w) (ho0 : Kd.R (Kd.int .u8) 5 w w0.heap.size P0_ u9000_ l0) (hl : l0.length + 4 ≤ 140737488355328) :
    Calls Tryd.prog 44 #[u9000_, .int .i32 a1] w fun e w' => ∃ v0_ : Value, e = .returned v0_ ∧ Kd.R (Kd.int .u8) 5 w' w0.heap.size (fun k_ => (P0_ k_ ∨ w.heap.size ≤ k_)) v0_ (l0 ++ [240 + a1 / 262144, 128 + a1 / 4096 % 64, 128 + a1 / 64 % 64, 128 + a1 % 64]) ∧ Below w0.heap.size w0 w' ∧ Kept w w' (fun k_ => P0_ k_) := by
  have HO := Kd.R_bound ho0
  have HF := utf8_appendRuneNonASCII.lit w [240 + a1 / 262144, 128 + a1 / 4096 % 64, 128 + a1 / 64 % 64, 128 + a1 % 64] (by simp)
  simp only [List.map_cons, List.map_nil] at HF
  go_enter Tryd.func44, Tryd.ntmps44
  go_wp2_with (at_builtin; refine Kd.R_append_rows (Kd.int .u8) (w0 := w0) w0.heap.size rfl _ _ 48 5 (.int .u8 0) 1 rfl Tryd.underlying48 info5 rfl (by decide) (by omega) u9000_ l0 [240 + a1 / 262144, 128 + a1 / 4096 % 64, 128 + a1 / 64 % 64, 128 + a1 % 64] _ 4 4 (fun k_ => P0_ k_ ∨ w.heap.size ≤ k_) (fun _ => False) rfl rfl ?aO HF (fun _ _ h => h) (fun _ h => h.elim) ?aF ?aB ?aS ?aL ?_)
  case aO => exact Kd.R_alloc (Kd.R_mono ho0 (fun _ h => .inl h)) _
  case aF => exact fun k hk => .inr (by first | omega | (simp at hk; omega))
  case aB => exact below_alloc hB _
  case aS => have := hB.size; first | omega | (simp; omega)
  case aL => first | omega | (simp; omega)
  intro v1 w1 hr1 hb1 hg1 _
  go_wp2
  go_ret
  exact utf8_appendRuneNonASCII.done P0_ u9000_ l0 _ w0 w w1 _ v1 hB ho0.1 hr1 hb1 hg1
set_option maxHeartbeats 4000000 in
set_option maxRecDepth 100000 in
theorem utf8_appendRuneNonASCII.sur (P0_ : Nat → Prop) (u9000_ : Value) (l0 : List Int) (a1 : Int) (h0 : 55296 ≤ a1) (h1 : a1 ≤ 57343) (w0 w : World) (hB : Below w0.heap.size w0 w) (ho0 : Kd.R (Kd.int .u8) 5 w w0.heap.size P0_ u9000_ l0) (hl : l0.length + 4 ≤ 140737488355328) :
    Calls Tryd.prog 44 #[u9000_, .int .i32 a1] w fun e w' => ∃ v0_ : Value, e = .returned v0_ ∧ Kd.R (Kd.int .u8) 5 w' w0.heap.size (fun k_ => (P0_ k_ ∨ w.heap.size ≤ k_)) v0_ (l0 ++ [239, 191, 189]) ∧ Below w0.heap.size w0 w' ∧ Kept w w' (fun k_ => P0_ k_) := by
  have HO := Kd.R_bound ho0
  have HF := utf8_appendRuneNonASCII.lit w [239, 191, 189] (by simp)
  simp only [List.map_cons, List.map_nil] at HF
  go_enter Tryd.func44, Tryd.ntmps44
  go_wp2_with (at_builtin; refine Kd.R_append_rows (Kd.int .u8) (w0 := w0) w0.heap.size rfl _ _ 48 5 (.int .u8 0) 1 rfl Tryd.underlying48 info5 rfl (by decide) (by omega) u9000_ l0 [239, 191, 189] _ 3 3 (fun k_ => P0_ k_ ∨ w.heap.size ≤ k_) (fun _ => False) rfl rfl ?aO HF (fun _ _ h => h) (fun _ h => h.elim) ?aF ?aB ?aS ?aL ?_)
  case aO => exact Kd.R_alloc (Kd.R_mono ho0 (fun _ h => .inl h)) _
  case aF => exact fun k hk => .inr (by first | omega | (simp at hk; omega))
  case aB => exact below_alloc hB _
  case aS => have := hB.size; first | omega | (simp; omega)
  case aL => first | omega | (simp; omega)
  intro v1 w1 hr1 hb1 hg1 _
  go_wp2
  go_ret
  exact utf8_appendRuneNonASCII.done P0_ u9000_ l0 _ w0 w w1 _ v1 hB ho0.1 hr1 hb1 hg1
set_option maxHeartbeats 4000000 in
set_option maxRecDepth 100000 in
theorem utf8_appendRuneNonASCII.big (P0_ : Nat → Prop) (u9000_ : Value) (l0 : List Int) (a1 : Int) (h0 : 1114111 < a1) (h1 : a1 ≤ 2147483647) (w0 w : World) (hB : Below w0.heap.size w0 w) (ho0 : Kd.R (Kd.int .u8) 5 w w0.heap.size P0_ u9000_ l0) (hl : l0.length + 4 ≤ 140737488355328) :
    Calls Tryd.prog 44 #[u9000_, .int .i32 a1] w fun e w' => ∃ v0_ : Value, e = .returned v0_ ∧ Kd.R (Kd.int .u8) 5 w' w0.heap.size (fun k_ => (P0_ k_ ∨ w.heap.size ≤ k_)) v0_ (l0 ++ [239, 191, 189]) ∧ Below w0.heap.size w0 w' ∧ Kept w w' (fun k_ => P0_ k_) := by
  have HO := Kd.R_bound ho0
  have HF := utf8_appendRuneNonASCII.lit w [239, 191, 189] (by simp)
  simp only [List.map_cons, List.map_nil] at HF
  go_enter Tryd.func44, Tryd.ntmps44
  go_wp2_with (at_builtin; refine Kd.R_append_rows (Kd.int .u8) (w0 := w0) w0.heap.size rfl _ _ 48 5 (.int .u8 0) 1 rfl Tryd.underlying48 info5 rfl (by decide) (by omega) u9000_ l0 [239, 191, 189] _ 3 3 (fun k_ => P0_ k_ ∨ w.heap.size ≤ k_) (fun _ => False) rfl rfl ?aO HF (fun _ _ h => h) (fun _ h => h.elim) ?aF ?aB ?aS ?aL ?_)
  case aO => exact Kd.R_alloc (Kd.R_mono ho0 (fun _ h => .inl h)) _
  case aF => exact fun k hk => .inr (by first | omega | (simp at hk; omega))
  case aB => exact below_alloc hB _
  case aS => have := hB.size; first | omega | (simp; omega)
  case aL => first | omega | (simp; omega)
  intro v1 w1 hr1 hb1 hg1 _
  go_wp2
  go_ret
  exact utf8_appendRuneNonASCII.done P0_ u9000_ l0 _ w0 w w1 _ v1 hB ho0.1 hr1 hb1 hg1
set_option maxHeartbeats 4000000 in
set_option maxRecDepth 100000 in
theorem utf8_appendRuneNonASCII.neg (P0_ : Nat → Prop) (u9000_ : Value) (l0 : List Int) (a1 : Int) (h0 : -2147483648 ≤ a1) (h1 : a1 < 0) (w0 w : World) (hB : Below w0.heap.size w0 w) (ho0 : Kd.R (Kd.int .u8) 5 w w0.heap.size P0_ u9000_ l0) (hl : l0.length + 4 ≤ 140737488355328) :
    Calls Tryd.prog 44 #[u9000_, .int .i32 a1] w fun e w' => ∃ v0_ : Value, e = .returned v0_ ∧ Kd.R (Kd.int .u8) 5 w' w0.heap.size (fun k_ => (P0_ k_ ∨ w.heap.size ≤ k_)) v0_ (l0 ++ [239, 191, 189]) ∧ Below w0.heap.size w0 w' ∧ Kept w w' (fun k_ => P0_ k_) := by
  have HO := Kd.R_bound ho0
  have HF := utf8_appendRuneNonASCII.lit w [239, 191, 189] (by simp)
  simp only [List.map_cons, List.map_nil] at HF
  go_enter Tryd.func44, Tryd.ntmps44
  go_wp2_with (at_builtin; refine Kd.R_append_rows (Kd.int .u8) (w0 := w0) w0.heap.size rfl _ _ 48 5 (.int .u8 0) 1 rfl Tryd.underlying48 info5 rfl (by decide) (by omega) u9000_ l0 [239, 191, 189] _ 3 3 (fun k_ => P0_ k_ ∨ w.heap.size ≤ k_) (fun _ => False) rfl rfl ?aO HF (fun _ _ h => h) (fun _ h => h.elim) ?aF ?aB ?aS ?aL ?_)
  case aO => exact Kd.R_alloc (Kd.R_mono ho0 (fun _ h => .inl h)) _
  case aF => exact fun k hk => .inr (by first | omega | (simp at hk; omega))
  case aB => exact below_alloc hB _
  case aS => have := hB.size; first | omega | (simp; omega)
  case aL => first | omega | (simp; omega)
  intro v1 w1 hr1 hb1 hg1 _
  go_wp2
  go_ret
  exact utf8_appendRuneNonASCII.done P0_ u9000_ l0 _ w0 w w1 _ v1 hB ho0.1 hr1 hb1 hg1
theorem utf8_appendRuneNonASCII.calls (P0_ : Nat → Prop) (u9000_ : Value) (l0 : List Int) (a1 : Int) (r : List Int) (w0 w : World) (hB : Below w0.heap.size w0 w) (ho0 : Kd.R (Kd.int .u8) 5 w w0.heap.size P0_ u9000_ l0) (h : utf8_appendRuneNonASCII.f l0 a1 = some r) :
    Calls Tryd.prog 44 #[u9000_, .int .i32 a1] w fun e w' => ∃ v0_ : Value, e = .returned v0_ ∧ Kd.R (Kd.int .u8) 5 w' w0.heap.size (fun k_ => (P0_ k_ ∨ w.heap.size ≤ k_)) v0_ r ∧ Below w0.heap.size w0 w' ∧ Kept w w' (fun k_ => P0_ k_) := by
  unfold utf8_appendRuneNonASCII.f at h
  by_cases hc : 127 < a1 % 4294967296 ∧ l0.length + 4 ≤ 140737488355328 ∧ -2147483648 ≤ a1 ∧ a1 ≤ 2147483647
  case neg => rw [if_neg hc] at h; cases h
  rw [if_pos hc] at h
  obtain rfl := Option.some.inj h
  obtain ⟨h1, hl, h2, h3⟩ := hc
  clear h
  by_cases c0 : a1 < 0
  · rw [Lib.encodeRuneZ_bad (.inl c0)]
    exact utf8_appendRuneNonASCII.neg P0_ u9000_ l0 a1 h2 c0 w0 w hB ho0 hl
  have c1 : 128 ≤ a1 := by omega
  by_cases c2 : a1 ≤ 2047
  · rw [Lib.encodeRuneZ_two c1 c2]
    exact utf8_appendRuneNonASCII.two P0_ u9000_ l0 a1 c1 c2 w0 w hB ho0 hl
  by_cases c3 : a1 < 55296
  · rw [Lib.encodeRuneZ_three (.inl ⟨by omega, c3⟩)]
    exact utf8_appendRuneNonASCII.lo P0_ u9000_ l0 a1 (by omega) c3 w0 w hB ho0 hl
  by_cases c4 : a1 ≤ 57343
  · rw [Lib.encodeRuneZ_bad (.inr (.inl ⟨by omega, c4⟩))]
    exact utf8_appendRuneNonASCII.sur P0_ u9000_ l0 a1 (by omega) c4 w0 w hB ho0 hl
  by_cases c5 : a1 ≤ 65535
  · rw [Lib.encodeRuneZ_three (.inr ⟨by omega, c5⟩)]
    exact utf8_appendRuneNonASCII.hi P0_ u9000_ l0 a1 (by omega) c5 w0 w hB ho0 hl
  by_cases c6 : a1 ≤ 1114111
  · rw [Lib.encodeRuneZ_four (by omega) c6]
    exact utf8_appendRuneNonASCII.four P0_ u9000_ l0 a1 (by omega) c6 w0 w hB ho0 hl
  · rw [Lib.encodeRuneZ_bad (.inr (.inr (by omega)))]
    exact utf8_appendRuneNonASCII.big P0_ u9000_ l0 a1 (by omega) h3 w0 w hB ho0 hl

/-! ### utf8_AppendRune: function 37 -/
def utf8_AppendRune.f (l0 : List Int) (a1 : Int) : Option (List Int) := if ((a1) % 4294967296) ≤ 127 then (if l0.length < 140737488355328 then (some (l0 ++ [(a1) % 256])) else (none)) else ((utf8_appendRuneNonASCII.f l0 a1).bind fun t117 => (some t117))
set_option maxHeartbeats 8000000 in
set_option maxRecDepth 100000 in
theorem utf8_AppendRune.calls (P0_ : Nat → Prop) (u9000_ : Value) (l0 : List Int) (a1 : Int) (r : List Int) (w0 w : World) (hB : Below w0.heap.size w0 w) (ho0 : Kd.R (Kd.int .u8) 5 w w0.heap.size P0_ u9000_ l0) (h : utf8_AppendRune.f l0 a1 = some r) :
    Calls Tryd.prog 37 #[u9000_, .int .i32 a1] w fun e w' => ∃ v0_ : Value, e = .returned (v0_) ∧ Kd.R (Kd.int .u8) 5 w' w0.heap.size (fun k_ => (P0_ k_ ∨ w.heap.size ≤ k_)) v0_ r ∧ Below w0.heap.size w0 w' ∧ Kept w w' (fun k_ => P0_ k_) := by
  have HO0 := Aside0.mk (show Kd.R (Kd.int .u8) 5 w w0.heap.size (fun k_ => (P0_ k_ ∨ w.heap.size ≤ k_)) u9000_ l0 from Kd.R_mono ho0 (fun k_ hk => (.inl hk)))
  have HK := Aside0.mk (Kept.refl w (fun k_ => P0_ k_))
  have HW0 := Aside0.mk hB.size
  have HB := Aside0.mk hB
  clear hB
  have H : (if ((a1) % 4294967296) ≤ 127 then (if l0.length < 140737488355328 then (some (l0 ++ [(a1) % 256])) else (none)) else ((utf8_appendRuneNonASCII.f l0 a1).bind fun t117 => (some t117))) = some r := h
  clear h
  by_cases c3 : ((a1) % 4294967296) ≤ 127
  · rw [if_pos c3] at H
    have c3b0 : decide (((a1) % 4294967296) ≤ 127) = true := decide_eq_true c3
    clear c3
    by_cases c4 : l0.length < 140737488355328
    · rw [if_pos c4] at H
      have LMc4 := Aside0.mk c4
      clear c4
      obtain ⟨y114, hy114⟩ : ∃ y_ : List Int, y_ = (l0 ++ [(a1) % 256]) := ⟨_, rfl⟩
      replace H : (some y114) = some r := by first | (rw [hy114]; with_reducible exact H) | (have H2_ := (Option.bind_some _ _).symm.trans H; rw [hy114]; with_reducible exact H2_) | (have H2_ := (Option.bind_some _ _).symm.trans H; with_reducible exact H2_) | with_reducible exact H | (rw [hy114]; exact H) | exact H
      have Ny114 := Aside0.mk hy114
      clear hy114
      obtain rfl := Option.some.inj H
      go_enter Tryd.func37, Tryd.ntmps37
      go_wp2_with (first | ((with_reducible refine gate_builtin (b := .append) (xs := #[.tmp 8, .tmp 11]) rfl ?_); at_builtin; refine Kd.R_append (Kd.int .u8) (w0 := w0) w0.heap.size rfl (.tmp 8) (.tmp 11) 48 5 (.int .u8 0) 1 rfl Tryd.underlying48 info5 rfl (by decide) (by omega) u9000_ l0 ((a1) % 256) [.int .u8 ((a1) % 256)] (fun k_ => (P0_ k_ ∨ w.heap.size ≤ k_)) (fun _ => False) rfl rfl ?aP (fun _ hk => hk.elim) ?aF ?aO ?aB ?aS ?aL ?_; (case aP => exact rfl); (case aB => exact (by repeat (first | (with_reducible first | exact HB.out | apply below_alloc | apply pw_below_drewN | apply below_drew1) | exact HB.out))); (case aF => exact (fun k_ hk => (.inr (Nat.le_trans (by first | exact HK.out.1 | exact (show Kept w _ (fun k_ => P0_ k_) from by repeat (first | (with_reducible first | exact HK.out | apply Kept.alloc | apply Kept.drewN | apply Kept.drew) | exact HK.out)).1) hk)))); (case aO => exact (by (with_reducible repeat (first | apply Kd.R_alloc | apply Kd.R_drewN | apply Kd.R_drew)); exact HO0.out)); (case aS => exact (below_size (by repeat (first | (with_reducible first | exact HB.out | apply below_alloc | apply pw_below_drewN | apply below_drew1) | exact HB.out)))); (case aL => have := LMc4.out; omega); intro v115 w5 ho hb hg hat; rw [← Ny114.out] at ho; have n0_ := Aside0.mk (hb); have n1_ := Aside0.mk (Kept.of_grown (S := (fun k_ => P0_ k_)) hg (by repeat (first | (with_reducible first | exact HK.out | apply Kept.alloc | apply Kept.drewN | apply Kept.drew) | exact HK.out)) (fun k_ e_ => (HO0.out.1 k_ e_))); have n2_ := Aside0.mk (ho); clear HB; clear HK; clear HO0; have HB := n0_; have HK := n1_; have HO116 := n2_; clear n0_ n1_ n2_; clear ho hb hg hat))
      go_ret
      exact ⟨_, by first | rfl | (simp [errW_none, errW_some] <;> rfl) | (simp [*, errW_none, errW_some] <;> rfl), by (with_reducible repeat (first | apply Kd.R_alloc | apply Kd.R_drewN | apply Kd.R_drew)); exact HO116.out, by repeat (first | (with_reducible first | exact HB.out | apply below_alloc | apply pw_below_drewN | apply below_drew1) | exact HB.out), by repeat (first | (with_reducible first | exact HK.out | apply Kept.alloc | apply Kept.drewN | apply Kept.drew) | exact HK.out)⟩
    · rw [if_neg c4] at H
      exact absurd H (by simp)
  · rw [if_neg c3] at H
    have c3b0 : decide (((a1) % 4294967296) ≤ 127) = false := decide_eq_false c3
    clear c3
    replace H := Option.bind_eq_some_iff.mp H
    obtain ⟨t117, A60, H⟩ := H
    replace H : (some t117) = some r := H
    have A6 := Aside0.mk A60
    clear A60
    obtain rfl := Option.some.inj H
    obtain ⟨Ao7, co7, eo7⟩ := Kd.R_slice HO0.out
    subst eo7
    go_enter Tryd.func37, Tryd.ntmps37
    go_wp2_with (first | ((with_reducible refine gate_callee (f := 44) rfl ?_); refine goesL_ (some 15) rfl rfl Tryd.func44 (by kernel_rfl) rfl #[.slice Ao7 l0.length co7, .int .i32 a1] rfl (by (try simp only [List.map_toArray, List.map_cons, List.map_nil]); first | done | rfl | (simp only [List.length_drop, List.length_take]; rfl)) ?_; (with_reducible refine (utf8_appendRuneNonASCII.calls (fun k_ => some k_ = (.slice Ao7 l0.length co7 : Value).ownBlock) (.slice Ao7 l0.length co7) l0 a1 t117 w0 _ ?side1 ?side2 A6.out).mono ?_); (case side1 => repeat (first | (with_reducible first | exact HB.out | apply below_alloc | apply pw_below_drewN | apply below_drew1) | exact HB.out)); (case side2 => exact Kd.R_tight rfl HO0.out); rintro e w8 ⟨v118, rfl, ho0, hb, hkp⟩; refine ⟨_, rfl, ?_⟩; have n0_ := Aside0.mk (Kd.R_mono (ok' := fun k_ => (P0_ k_ ∨ w.heap.size ≤ k_)) ho0 (fun k_ hk_ => Or.elim hk_ (fun hs_ => (HO0.out.1 k_ (hs_).symm)) (fun hn_ => (.inr (Nat.le_trans (by first | exact HK.out.1 | exact (show Kept w _ (fun k_ => P0_ k_) from by repeat (first | (with_reducible first | exact HK.out | apply Kept.alloc | apply Kept.drewN | apply Kept.drew) | exact HK.out)).1) hn_))))); have n1_ := Aside0.mk (Kept.then_ (S := (fun k_ => P0_ k_)) (by repeat (first | (with_reducible first | exact HK.out | apply Kept.alloc | apply Kept.drewN | apply Kept.drew) | exact HK.out)) hkp (fun k_ hs_ => (fun e_ => (HO0.out.1 k_ e_.symm)) hs_)); have n2_ := Aside0.mk (hb); clear HK; clear HB; clear HO0; have HO119 := n0_; have HK := n1_; have HB := n2_; clear n0_ n1_ n2_; (try clear hb); (try clear hkp); (try clear ho0)))
    go_ret
    exact ⟨_, by first | rfl | (simp [errW_none, errW_some] <;> rfl) | (simp [*, errW_none, errW_some] <;> rfl), by (with_reducible repeat (first | apply Kd.R_alloc | apply Kd.R_drewN | apply Kd.R_drew)); exact HO119.out, by repeat (first | (with_reducible first | exact HB.out | apply below_alloc | apply pw_below_drewN | apply below_drew1) | exact HB.out), by repeat (first | (with_reducible first | exact HK.out | apply Kept.alloc | apply Kept.drewN | apply Kept.drew) | exact HK.out)⟩

/-! ### utf8_DecodeRuneInString: function 31, given -/
def utf8_DecodeRuneInString.f (a0 : ByteArray) : Option (Int × Int) := some ((((Lib.decodeGo a0).1 : Nat) : Int), (((Lib.decodeGo a0).2 : Nat) : Int))
theorem utf8_DecodeRuneInString.calls (a0 : ByteArray) (r1 : Int) (r2 : Int) (w : World) (h : utf8_DecodeRuneInString.f a0 = some (r1, r2)) (hT : Tb w) :
    Calls Tryd.prog 31 #[.string a0] w fun e w' => e = .returned (.tuple #[.int .i32 r1, .int .i64 r2]) ∧ Below w.heap.size w w' := by
  unfold utf8_DecodeRuneInString.f at h
  simp only [Option.some.injEq, Prod.mk.injEq] at h
  obtain ⟨rfl, rfl⟩ := h
  exact Tryd.utf8_DecodeRuneInString a0 w hT.utf

/-! ### stringslite_HasPrefix: function 55 -/
def stringslite_HasPrefix.f (a0 : ByteArray) (a1 : ByteArray) : Option (Bool) := if (a0.size : Int) ≥ (a1.size : Int) then (if 0 ≤ (a1.size : Int) then (if (a1.size : Int) ≤ (a0.size : Int) then (some ((a0.extract 0 ((a1.size : Int) : Int).toNat).toList == a1.toList)) else (none)) else (none)) else (some false)
set_option maxHeartbeats 8000000 in
set_option maxRecDepth 100000 in
theorem stringslite_HasPrefix.calls (a0 : ByteArray) (a1 : ByteArray) (r : Bool) (w : World) (h : stringslite_HasPrefix.f a0 a1 = some r) :
    Calls Tryd.prog 55 #[.string a0, .string a1] w fun e w' => e = .returned (.bool r) ∧ Drawn0 w w' := by
  have H : (if (a0.size : Int) ≥ (a1.size : Int) then (if 0 ≤ (a1.size : Int) then (if (a1.size : Int) ≤ (a0.size : Int) then (some ((a0.extract 0 ((a1.size : Int) : Int).toNat).toList == a1.toList)) else (none)) else (none)) else (some false)) = some r := h
  clear h
  by_cases c3 : (a0.size : Int) ≥ (a1.size : Int)
  · rw [if_pos c3] at H
    have c3b0 : decide ((a1.size : Int) ≤ (a0.size : Int)) = true := decide_eq_true c3
    have c3b1 : decide (a1.size ≤ a0.size) = true := decide_eq_true (Int.ofNat_le.mp c3)
    clear c3
    by_cases c4 : 0 ≤ (a1.size : Int)
    · rw [if_pos c4] at H
      have c4b0 := eq_true c4
      have c4b1 : decide (0 ≤ (a1.size : Int)) = true := decide_eq_true c4
      clear c4
      by_cases c5 : (a1.size : Int) ≤ (a0.size : Int)
      · rw [if_pos c5] at H
        have c5b0 := eq_true c5
        have c5b1 : decide ((a1.size : Int) ≤ (a0.size : Int)) = true := decide_eq_true c5
        clear c5
        obtain rfl := Option.some.inj H
        go_enter Tryd.func55, Tryd.ntmps55
        go_wp2
        go_ret
        exact ⟨by first | rfl | (simp; done) | (simp [*]; done), by repeat (first | exact Drawn0.refl _ | apply Drawn0.step)⟩
      · rw [if_neg c5] at H
        exact absurd H (by simp)
    · rw [if_neg c4] at H
      exact absurd H (by simp)
  · rw [if_neg c3] at H
    have c3b0 : decide ((a1.size : Int) ≤ (a0.size : Int)) = false := decide_eq_false c3
    have c3b1 : decide (a1.size ≤ a0.size) = false := decide_eq_false (fun h => c3 (Int.ofNat_le.mpr h))
    clear c3
    obtain rfl := Option.some.inj H
    go_enter Tryd.func55, Tryd.ntmps55
    go_wp2
    go_ret
    exact ⟨by first | rfl | (simp; done) | (simp [*]; done), by repeat (first | exact Drawn0.refl _ | apply Drawn0.step)⟩

/-! ### strings_HasPrefix: function 49 -/
def strings_HasPrefix.f (a0 : ByteArray) (a1 : ByteArray) : Option (Bool) := (stringslite_HasPrefix.f a0 a1).bind fun t120 => (some t120)
set_option maxHeartbeats 8000000 in
set_option maxRecDepth 100000 in
theorem strings_HasPrefix.calls (a0 : ByteArray) (a1 : ByteArray) (r : Bool) (w : World) (h : strings_HasPrefix.f a0 a1 = some r) :
    Calls Tryd.prog 49 #[.string a0, .string a1] w fun e w' => e = .returned (.bool r) ∧ Drawn0 w w' := by
  have H : ((stringslite_HasPrefix.f a0 a1).bind fun t120 => (some t120)) = some r := h
  clear h
  replace H := Option.bind_eq_some_iff.mp H
  obtain ⟨t120, A30, H⟩ := H
  replace H : (some t120) = some r := H
  have A3 := Aside0.mk A30
  clear A30
  obtain rfl := Option.some.inj H
  go_enter Tryd.func49, Tryd.ntmps49
  go_wp2_with (first | ((with_reducible refine gate_callee (f := 55) rfl ?_); refine goesL_ (some 7) rfl rfl Tryd.func55 (by kernel_rfl) rfl #[.string a0, .string a1] rfl (by (try simp only [List.map_toArray, List.map_cons, List.map_nil]); first | done | rfl | (simp only [List.length_drop, List.length_take]; rfl)) ?_; (with_reducible refine (stringslite_HasPrefix.calls a0 a1 t120 _ A3.out).mono ?_); rintro e w' ⟨rfl, ⟨nd, rfl⟩⟩; refine ⟨_, rfl, ?_⟩))
  go_ret
  exact ⟨by first | rfl | (simp; done) | (simp [*]; done), by repeat (first | exact Drawn0.refl _ | apply Drawn0.step)⟩

/-! ### utf8_ValidRune: function 36 -/
def utf8_ValidRune.j0 : Nat → Int → Bool → Option (Bool)
  | 0, _, _ => none
  | k + 1, x0, x3 => if x3 = true then (some true) else (if 57343 < x0 then (if x0 ≤ 1114111 then (some true) else (some false)) else (some false))
def utf8_ValidRune.f (k : Nat) (a0 : Int) : Option (Bool) := if 0 ≤ a0 then (utf8_ValidRune.j0 k a0 (decide (a0 < 55296))) else (utf8_ValidRune.j0 k a0 false)
theorem utf8_ValidRune.mono_l : ∀ k, (∀ y0 y1, LeO (utf8_ValidRune.j0 k y0 y1) (utf8_ValidRune.j0 (k + 1) y0 y1))
  | 0 => fun _ _ r h => by simp [utf8_ValidRune.j0] at h
  | k + 1 => by
    have ih0 := utf8_ValidRune.mono_l k
    · intro y0 y1
      unfold utf8_ValidRune.j0
      repeat' first
      | (with_reducible exact ih0 _ _)
      | (with_reducible exact LeO.refl _)
      | (with_reducible exact LeO.none _)
      | (with_reducible refine LeO.ite ?_ ?_)
      | (with_reducible refine LeO.bind ?_ (fun _ => ?_))
      | exact ih0 _ _
      | exact LeO.none _
      | refine LeO.ite ?_ ?_
      | refine LeO.bind ?_ (fun _ => ?_)
theorem utf8_ValidRune.mono : ∀ a0 k, LeO (utf8_ValidRune.f k a0) (utf8_ValidRune.f (k + 1) a0) := by
  intro a0 k
  have ih0 := utf8_ValidRune.mono_l k
  unfold utf8_ValidRune.f
  repeat' first
      | (with_reducible exact ih0 _ _)
      | (with_reducible exact LeO.refl _)
      | (with_reducible exact LeO.none _)
      | (with_reducible refine LeO.ite ?_ ?_)
      | (with_reducible refine LeO.bind ?_ (fun _ => ?_))
      | exact ih0 _ _
      | exact LeO.none _
      | refine LeO.ite ?_ ?_
      | refine LeO.bind ?_ (fun _ => ?_)
set_option maxHeartbeats 8000000 in
set_option maxRecDepth 100000 in
theorem utf8_ValidRune.calls (k : Nat) (a0 : Int) (r : Bool) (w : World) (h : utf8_ValidRune.f k a0 = some r) :
    Calls Tryd.prog 36 #[.int .i32 a0] w fun e w' => e = .returned (.bool r) ∧ Drawn0 w w' := by
  have H : (if 0 ≤ a0 then (utf8_ValidRune.j0 k a0 (decide (a0 < 55296))) else (utf8_ValidRune.j0 k a0 false)) = some r := h
  clear h
  have HC2 := Aside0.mk H
  clear H
  go_enter Tryd.func36, Tryd.ntmps36
  go_upto_region 1 with (fail)
  go_cut [3] (fun v3 wc => ∃ (kq : Nat) (x3_1 : Bool), v3 = .bool x3_1 ∧ Aside0 (utf8_ValidRune.j0 kq a0 x3_1 = some r) ∧ Aside0 (kq ≤ k) ∧ Drawn0 w wc)
  case first =>
    have H := HC2.out
    clear HC2
    by_cases c3 : 0 ≤ a0
    · rw [if_pos c3] at H
      have c3b0 : decide (0 ≤ a0) = true := decide_eq_true c3
      clear c3
      (first | rw [c3b0] | (simp only [i64_w, i32_w]; rw [c3b0]) | skip)
      have H' := Aside0.mk H
      clear H
      go_wp2
      go_meet
      case rel => exact ⟨_, (decide (a0 < 55296)), (by first | rfl | (simp; done) | (simp [*]; done)), H', ⟨by first | omega | exact Nat.le_refl _⟩, by repeat (first | exact Drawn0.refl _ | apply Drawn0.step)⟩
    · rw [if_neg c3] at H
      have c3b0 : decide (0 ≤ a0) = false := decide_eq_false c3
      clear c3
      (first | rw [c3b0] | (simp only [i64_w, i32_w]; rw [c3b0]) | skip)
      have H' := Aside0.mk H
      clear H
      go_wp2
      go_meet
      case rel => exact ⟨_, (false), (by first | rfl | (simp; done) | (simp [*]; done)), H', ⟨by first | omega | exact Nat.le_refl _⟩, by repeat (first | exact Drawn0.refl _ | apply Drawn0.step)⟩
  case rest =>
    clear HC2
    try clear p2
    try clear c3
    try clear c3b0
    obtain ⟨kq, x3_1, rfl, HA, HJ1, ⟨mc1, rfl⟩⟩ := hcut
    cases kq with
    | zero => exact absurd HA.out (by simp [utf8_ValidRune.j0])
    | succ kj1 =>
      have H := HA.out
      clear HA
      simp only [utf8_ValidRune.j0] at H
      by_cases c4 : x3_1 = true
      · subst c4
        have H1 : (some true) = some r := by rw [if_pos rfl] at H; exact H
        clear H
        have H := H1
        clear H1
        obtain rfl := Option.some.inj H
        go_wp2
        go_ret
        exact ⟨by first | rfl | (simp; done) | (simp [*]; done), by repeat (first | exact Drawn0.refl _ | apply Drawn0.step)⟩
      · replace c4 := Bool.eq_false_iff.mpr c4
        subst c4
        have H1 : (if 57343 < a0 then (if a0 ≤ 1114111 then (some true) else (some false)) else (some false)) = some r := by rw [if_neg (show ¬ (false = true) by decide)] at H; exact H
        clear H
        have H := H1
        clear H1
        by_cases c5 : 57343 < a0
        · rw [if_pos c5] at H
          have c5b0 : decide (57343 < a0) = true := decide_eq_true c5
          clear c5
          by_cases c6 : a0 ≤ 1114111
          · rw [if_pos c6] at H
            have c6b0 : decide (a0 ≤ 1114111) = true := decide_eq_true c6
            clear c6
            obtain rfl := Option.some.inj H
            go_wp2
            go_ret
            exact ⟨by first | rfl | (simp; done) | (simp [*]; done), by repeat (first | exact Drawn0.refl _ | apply Drawn0.step)⟩
          · rw [if_neg c6] at H
            have c6b0 : decide (a0 ≤ 1114111) = false := decide_eq_false c6
            clear c6
            obtain rfl := Option.some.inj H
            go_wp2
            go_ret
            exact ⟨by first | rfl | (simp; done) | (simp [*]; done), by repeat (first | exact Drawn0.refl _ | apply Drawn0.step)⟩
        · rw [if_neg c5] at H
          have c5b0 : decide (57343 < a0) = false := decide_eq_false c5
          clear c5
          obtain rfl := Option.some.inj H
          go_wp2
          go_ret
          exact ⟨by first | rfl | (simp; done) | (simp [*]; done), by repeat (first | exact Drawn0.refl _ | apply Drawn0.step)⟩

/-! ### text_hex: function 56 -/
mutual
def text_hex.j0 : Nat → Int → Bool → Option (Int)
  | 0, _, _ => none
  | k + 1, x0, x3 => if x3 = true then (some ((x0 - 48) % 256)) else (if x0 ≥ 97 then (text_hex.j1 k x0 (decide (x0 ≤ 102))) else (text_hex.j1 k x0 false))
def text_hex.j1 : Nat → Int → Bool → Option (Int)
  | 0, _, _ => none
  | k + 1, x0, x13 => if x13 = true then (some (((x0 - 97) % 256) + 10)) else (if x0 ≥ 65 then (if x0 ≤ 70 then (some (((x0 - 65) % 256) + 10)) else (some (-1))) else (some (-1)))
end
def text_hex.f (k : Nat) (a0 : Int) : Option (Int) := if a0 ≥ 48 then (text_hex.j0 k a0 (decide (a0 ≤ 57))) else (text_hex.j0 k a0 false)
theorem text_hex.mono_l : ∀ k, (∀ y0 y1, LeO (text_hex.j0 k y0 y1) (text_hex.j0 (k + 1) y0 y1)) ∧ (∀ y0 y1, LeO (text_hex.j1 k y0 y1) (text_hex.j1 (k + 1) y0 y1))
  | 0 => ⟨fun _ _ r h => by simp [text_hex.j0] at h, fun _ _ r h => by simp [text_hex.j1] at h⟩
  | k + 1 => by
    obtain ⟨ih0, ih1⟩ := text_hex.mono_l k
    refine ⟨?_, ?_⟩
    · intro y0 y1
      unfold text_hex.j0
      repeat' first
      | (with_reducible exact ih0 _ _)
      | (with_reducible exact ih1 _ _)
      | (with_reducible exact LeO.refl _)
      | (with_reducible exact LeO.none _)
      | (with_reducible refine LeO.ite ?_ ?_)
      | (with_reducible refine LeO.bind ?_ (fun _ => ?_))
      | exact ih0 _ _
      | exact ih1 _ _
      | exact LeO.none _
      | refine LeO.ite ?_ ?_
      | refine LeO.bind ?_ (fun _ => ?_)
    · intro y0 y1
      unfold text_hex.j1
      repeat' first
      | (with_reducible exact ih0 _ _)
      | (with_reducible exact ih1 _ _)
      | (with_reducible exact LeO.refl _)
      | (with_reducible exact LeO.none _)
      | (with_reducible refine LeO.ite ?_ ?_)
      | (with_reducible refine LeO.bind ?_ (fun _ => ?_))
      | exact ih0 _ _
      | exact ih1 _ _
      | exact LeO.none _
      | refine LeO.ite ?_ ?_
      | refine LeO.bind ?_ (fun _ => ?_)
theorem text_hex.mono : ∀ a0 k, LeO (text_hex.f k a0) (text_hex.f (k + 1) a0) := by
  intro a0 k
  obtain ⟨ih0, ih1⟩ := text_hex.mono_l k
  unfold text_hex.f
  repeat' first
      | (with_reducible exact ih0 _ _)
      | (with_reducible exact ih1 _ _)
      | (with_reducible exact LeO.refl _)
      | (with_reducible exact LeO.none _)
      | (with_reducible refine LeO.ite ?_ ?_)
      | (with_reducible refine LeO.bind ?_ (fun _ => ?_))
      | exact ih0 _ _
      | exact ih1 _ _
      | exact LeO.none _
      | refine LeO.ite ?_ ?_
      | refine LeO.bind ?_ (fun _ => ?_)
set_option maxHeartbeats 8000000 in
set_option maxRecDepth 100000 in
theorem text_hex.calls (k : Nat) (a0 : Int) (r : Int) (w : World) (h : text_hex.f k a0 = some r) :
    Calls Tryd.prog 56 #[.int .u8 a0] w fun e w' => e = .returned (.int .i64 r) ∧ Drawn0 w w' := by
  have H : (if a0 ≥ 48 then (text_hex.j0 k a0 (decide (a0 ≤ 57))) else (text_hex.j0 k a0 false)) = some r := h
  clear h
  have HC2 := Aside0.mk H
  clear H
  go_enter Tryd.func56, Tryd.ntmps56
  go_upto_region 1 with (fail)
  go_cut [3] (fun v3 wc => ∃ (kq : Nat) (x3_1 : Bool), v3 = .bool x3_1 ∧ Aside0 (text_hex.j0 kq a0 x3_1 = some r) ∧ Aside0 (kq ≤ k) ∧ Drawn0 w wc)
  case first =>
    have H := HC2.out
    clear HC2
    by_cases c3 : a0 ≥ 48
    · rw [if_pos c3] at H
      have c3b0 : decide (48 ≤ a0) = true := decide_eq_true c3
      clear c3
      (first | rw [c3b0] | (simp only [i64_w, i32_w]; rw [c3b0]) | skip)
      have H' := Aside0.mk H
      clear H
      go_wp2
      go_meet
      case rel => exact ⟨_, (decide (a0 ≤ 57)), (by first | rfl | (simp; done) | (simp [*]; done)), H', ⟨by first | omega | exact Nat.le_refl _⟩, by repeat (first | exact Drawn0.refl _ | apply Drawn0.step)⟩
    · rw [if_neg c3] at H
      have c3b0 : decide (48 ≤ a0) = false := decide_eq_false c3
      clear c3
      (first | rw [c3b0] | (simp only [i64_w, i32_w]; rw [c3b0]) | skip)
      have H' := Aside0.mk H
      clear H
      go_wp2
      go_meet
      case rel => exact ⟨_, (false), (by first | rfl | (simp; done) | (simp [*]; done)), H', ⟨by first | omega | exact Nat.le_refl _⟩, by repeat (first | exact Drawn0.refl _ | apply Drawn0.step)⟩
  case rest =>
    clear HC2
    try clear p2
    try clear c3
    try clear c3b0
    obtain ⟨kq, x3_1, rfl, HA, HJ1, ⟨mc1, rfl⟩⟩ := hcut
    cases kq with
    | zero => exact absurd HA.out (by simp [text_hex.j0])
    | succ kj1 =>
      have H := HA.out
      clear HA
      simp only [text_hex.j0] at H
      by_cases c4 : x3_1 = true
      · subst c4
        have H1 : (some ((a0 - 48) % 256)) = some r := by rw [if_pos rfl] at H; exact H
        clear H
        have H := H1
        clear H1
        obtain rfl := Option.some.inj H
        go_wp2
        go_ret
        exact ⟨by first | rfl | (simp; done) | (simp [*]; done), by repeat (first | exact Drawn0.refl _ | apply Drawn0.step)⟩
      · replace c4 := Bool.eq_false_iff.mpr c4
        subst c4
        have H1 : (if a0 ≥ 97 then (text_hex.j1 kj1 a0 (decide (a0 ≤ 102))) else (text_hex.j1 kj1 a0 false)) = some r := by rw [if_neg (show ¬ (false = true) by decide)] at H; exact H
        clear H
        have H := H1
        clear H1
        have HC5 := Aside0.mk H
        clear H
        go_upto_region 3 with (fail)
        go_cut [13] (fun v13 wc => ∃ (kq : Nat) (x13_4 : Bool), v13 = .bool x13_4 ∧ Aside0 (text_hex.j1 kq a0 x13_4 = some r) ∧ Aside0 (kq ≤ kj1) ∧ Drawn0 w wc)
        case first =>
          have H := HC5.out
          clear HC5
          by_cases c6 : a0 ≥ 97
          · rw [if_pos c6] at H
            have c6b0 : decide (97 ≤ a0) = true := decide_eq_true c6
            clear c6
            (first | rw [c6b0] | (simp only [i64_w, i32_w]; rw [c6b0]) | skip)
            have H' := Aside0.mk H
            clear H
            go_wp2
            go_meet
            case rel => exact ⟨_, (decide (a0 ≤ 102)), (by first | rfl | (simp; done) | (simp [*]; done)), H', ⟨by have := HJ1.out; first | omega | exact Nat.le_refl _⟩, by repeat (first | exact Drawn0.refl _ | apply Drawn0.step)⟩
          · rw [if_neg c6] at H
            have c6b0 : decide (97 ≤ a0) = false := decide_eq_false c6
            clear c6
            (first | rw [c6b0] | (simp only [i64_w, i32_w]; rw [c6b0]) | skip)
            have H' := Aside0.mk H
            clear H
            go_wp2
            go_meet
            case rel => exact ⟨_, (false), (by first | rfl | (simp; done) | (simp [*]; done)), H', ⟨by have := HJ1.out; first | omega | exact Nat.le_refl _⟩, by repeat (first | exact Drawn0.refl _ | apply Drawn0.step)⟩
        case rest =>
          clear HC5
          try clear c1
          try clear p2
          try clear c3
          try clear c3b0
          try clear c4
          try clear c5
          try clear c6
          try clear c6b0
          try clear p2
          obtain ⟨kq, x13_4, rfl, HA, HJ4, ⟨mc4, rfl⟩⟩ := hcut
          cases kq with
          | zero => exact absurd HA.out (by simp [text_hex.j1])
          | succ kj4 =>
            have H := HA.out
            clear HA
            simp only [text_hex.j1] at H
            by_cases c7 : x13_4 = true
            · subst c7
              have H1 : (some (((a0 - 97) % 256) + 10)) = some r := by rw [if_pos rfl] at H; exact H
              clear H
              have H := H1
              clear H1
              obtain rfl := Option.some.inj H
              go_wp2
              go_ret
              exact ⟨by first | rfl | (simp; done) | (simp [*]; done), by repeat (first | exact Drawn0.refl _ | apply Drawn0.step)⟩
            · replace c7 := Bool.eq_false_iff.mpr c7
              subst c7
              have H1 : (if a0 ≥ 65 then (if a0 ≤ 70 then (some (((a0 - 65) % 256) + 10)) else (some (-1))) else (some (-1))) = some r := by rw [if_neg (show ¬ (false = true) by decide)] at H; exact H
              clear H
              have H := H1
              clear H1
              by_cases c8 : a0 ≥ 65
              · rw [if_pos c8] at H
                have c8b0 : decide (65 ≤ a0) = true := decide_eq_true c8
                clear c8
                by_cases c9 : a0 ≤ 70
                · rw [if_pos c9] at H
                  have c9b0 : decide (a0 ≤ 70) = true := decide_eq_true c9
                  clear c9
                  obtain rfl := Option.some.inj H
                  go_wp2
                  go_ret
                  exact ⟨by first | rfl | (simp; done) | (simp [*]; done), by repeat (first | exact Drawn0.refl _ | apply Drawn0.step)⟩
                · rw [if_neg c9] at H
                  have c9b0 : decide (a0 ≤ 70) = false := decide_eq_false c9
                  clear c9
                  obtain rfl := Option.some.inj H
                  go_wp2
                  go_ret
                  exact ⟨by first | rfl | (simp; done) | (simp [*]; done), by repeat (first | exact Drawn0.refl _ | apply Drawn0.step)⟩
              · rw [if_neg c8] at H
                have c8b0 : decide (65 ≤ a0) = false := decide_eq_false c8
                clear c8
                obtain rfl := Option.some.inj H
                go_wp2
                go_ret
                exact ⟨by first | rfl | (simp; done) | (simp [*]; done), by repeat (first | exact Drawn0.refl _ | apply Drawn0.step)⟩

end Go.Proofs.YtapccgkkcgggiaaDoor.GB
