import Derived.Lib.ItoaNum
import Derived.Sort.Grow
import Derived.Test.YtapccgkkcgggiaaDoorWWords
import Derived.Test.YtapccgkkcgggiaaDoorRows
import Derived.Lib.LaidTab
import Derived.MakeChecks
import Derived.Lib.LaidU8
import Derived.PinnedBridge
import Derived.Test.YtapccgkkcgggiaaDoorShelf
namespace Go.Proofs.YtapccgkkcgggiaaDoor.HandB
open Go.RowKit Go.Proofs.YtapccgkkcgggiaaDoorW.PrintWords
/-- A variable reads so still, where no old block has turned. -/
theorem tabIs_below {n : String} {k : IntKind} {zs : List Int} {w w' : World} (h : Lib.TabIs Tryd.prog w n k zs) (hb : Below w.heap.size w w') : Lib.TabIs Tryd.prog w' n k zs := by
  unfold Lib.TabIs World.var? at *
  cases hg : Program.globalNamed Tryd.prog n with
  | none => simp [hg] at h
  | some g =>
    simp only [hg, Option.bind_some] at h ⊢
    have hlt : g < w.heap.size := by
      rcases Nat.lt_or_ge g w.heap.size with h' | h'
      · exact h'
      · rw [Array.getElem?_eq_none h'] at h; simp at h
    rw [hb.block g hlt]
    exact h
/-- New blocks and draws turn nothing that was there. -/
theorem grow_below (w : World) (k : Nat) (os : Array Obj) : Below w.heap.size w (Go.Sort.grow (w.drewN k) os) :=
  ⟨rfl, rfl, rfl, by show w.heap.size ≤ (w.heap ++ os).size; rw [Array.size_append]; omega, fun j hj => by
    show (w.heap ++ os)[j]? = w.heap[j]?
    exact Array.getElem?_append_left hj⟩
def bruijn : List Int := [0, 1, 56, 2, 57, 49, 28, 3, 61, 58, 42, 50, 38, 29, 17, 4, 62, 47, 59, 36, 45, 43, 51, 22, 53, 39, 33, 30, 24, 18, 12, 5, 63, 55, 48, 27, 60, 41, 37, 16, 46, 35, 44, 21, 52, 32, 23, 11, 54, 26, 40, 15, 34, 20, 31, 10, 25, 14, 19, 9, 13, 8, 7, 6]
/-- What the library's tables hold. -/
structure Tb (w : World) : Prop where
  bru : Lib.TabIs Tryd.prog w "math/bits.deBruijn64tab" .u8 bruijn
  pow : Lib.TabIs Tryd.prog w "internal/strconv.uint64pow10" .u64 Lib.pow10Tab
  utf : Lib.Utf8Tabs 0 1 w
theorem Tb.below {w w' : World} (h : Tb w) (hb : Below w.heap.size w w') : Tb w' := ⟨tabIs_below h.bru hb, tabIs_below h.pow hb, Utf8Tabs_below h.utf hb⟩
theorem Tb.drawn {w w' : World} (h : Tb w) (hd : Drawn0 w w') : Tb w' := h.below hd.below
/-- One listed variable's reading, wherever it stands on the list. -/
theorem laid_reads {P : Program} {w : World} : ∀ {l : List (String × DataW Unit)} {ps : List MemPlace}, DataW.LaidVars P w l ps → ∀ n d, (n, d) ∈ l →
    ∃ g t cs fuel p, P.globalNamed n = some g ∧ (P.globals[g]?).map (·.type) = some t ∧ w.var? P n = some cs ∧ DataW.trod (fun _ => ()) P w 0 (fun _ => true) false fuel t cs.toList = some (d, p)
  | [], _, _, _, _, hm => by cases hm
  | (_, _) :: _, _, ⟨g, t, cs, fuel, p, _, h1, h2, h3, h4, h5, _⟩, n, d, hm => by
    rcases List.mem_cons.1 hm with e | e
    · cases e
      exact ⟨g, t, cs, fuel, p, h1, h2, h3, h4⟩
    · exact laid_reads h5 n d e
theorem tabIs_of_reads {P : Program} {W : World} {name : String} {k : IntKind} {zs : List Int} {g : Nat} {t e : TypeId} {n : Nat}
    (hg : P.globalNamed name = some g) (hty : (P.globals[g]?).map (·.type) = some t) (ht : P.underlying t = some (.array n e)) (he : P.underlying e = some (.int k)) (hce : P.cellsOf e = 1) (hct : P.cellsOf t = n)
    (h : ∃ g t cs fuel p, P.globalNamed name = some g ∧ (P.globals[g]?).map (·.type) = some t ∧ W.var? P name = some cs ∧ DataW.trod (fun _ => ()) P W 0 (fun _ => true) false fuel t cs.toList = some (Lib.tabData k zs, p)) : Lib.TabIs P W name k zs := by
  obtain ⟨g', t', cs, fuel, p, hg', ht', hvar, hd⟩ := h
  obtain rfl := Option.some.inj (hg.symm.trans hg')
  obtain rfl := Option.some.inj (hty.symm.trans ht')
  unfold Lib.TabIs
  rw [hvar, ← Lib.cells_of_tab ht he hce hct hd]
def laidList : List (String × DataW Unit) := [("math/bits.deBruijn32tab", Rows.laid_math_bits_deBruijn32tab), ("math/bits.deBruijn64tab", Rows.laid_math_bits_deBruijn64tab), ("internal/strconv.uint64pow10", Rows.laid_internal_strconv_uint64pow10), ("unicode/utf8.acceptRanges", Rows.laid_unicode_utf8_acceptRanges), ("unicode/utf8.first", Rows.laid_unicode_utf8_first)]
theorem u8x : U8Extra Tryd.prog Tryd.lays260_ren := { n3 := by kernel_rfl, n4 := by kernel_rfl, y3 := by kernel_rfl, y4 := by kernel_rfl, c5 := by kernel_rfl, c119 := by kernel_rfl, c138 := by kernel_rfl }
theorem tb_of_laid {W : World} (h : laidMetH Tryd.prog laidList W) : Tb W := by
  rw [MakeChecks.laidMetH_plain _ _ _ (by kernel_rfl)] at h
  obtain ⟨ps, hv, _⟩ := h
  refine ⟨?_, ?_, ?_⟩
  · exact tabIs_of_reads (g := 4) (t := 94) (by kernel_rfl) (by kernel_rfl) Tryd.underlying94 Tryd.underlying5 (by kernel_rfl) (by kernel_rfl) (laid_reads hv "math/bits.deBruijn64tab" (Lib.tabData .u8 bruijn) (by
      have e : (Rows.laid_math_bits_deBruijn64tab : DataW Unit) = Lib.tabData .u8 bruijn := by kernel_rfl
      rw [← e]
      simp [laidList]))
  · exact tabIs_of_reads (g := 2) (t := 89) (by kernel_rfl) (by kernel_rfl) Tryd.underlying89 Tryd.underlying82 (by kernel_rfl) (by kernel_rfl) (laid_reads hv "internal/strconv.uint64pow10" (Lib.tabData .u64 Lib.pow10Tab) (by
      have e : (Rows.laid_internal_strconv_uint64pow10 : DataW Unit) = Lib.tabData .u64 Lib.pow10Tab := by kernel_rfl
      rw [← e]
      simp [laidList]))
  · refine utf8Tabs_of_reads Tryd.lays260 u8x (laid_reads hv "unicode/utf8.first" Lib.firstData ?_) (laid_reads hv "unicode/utf8.acceptRanges" Lib.acceptData ?_)
    · have e : (Rows.laid_unicode_utf8_first : DataW Unit) = Lib.firstData := Pinned.utf8First_eq
      rw [← e]
      simp [laidList]
    · have e : (Rows.laid_unicode_utf8_acceptRanges : DataW Unit) = Lib.acceptData := by kernel_rfl
      rw [← e]
      simp [laidList]
theorem global_bru : Tryd.prog.globalNamed "math/bits.deBruijn64tab" = some 4 := by kernel_rfl
theorem tz_key : IntKind.u64.wrap (bits BinOp.and IntKind.u64 16 (IntKind.u64.wrap (-16)) * 285870213051353865) / 288230376151711744 = 15 := by decide +kernel
set_option maxHeartbeats 400000 in
theorem tz16_64 (w : World) (hT : Tb w) : Calls Tryd.prog 63 #[.int .u64 16] w fun e w' => e = .returned (.int .i64 4) ∧ w = w' := by
  have hc : ∀ i, i < 64 → w.cell? ⟨4, i, none⟩ = some (.int .u8 (bruijn.getD i 0)) := fun i hi => hT.bru.cell global_bru i hi
  have h15 : w.cell? ⟨4, 15, none⟩ = some (.int .u8 4) := hc 15 (by decide)
  clear hc
  go_enter Tryd.func63, Tryd.ntmps63
  go_wp2_with (simp only [tz_key])
  go_ret
  exact ⟨rfl, rfl⟩
set_option maxHeartbeats 400000 in
theorem tz16 (w : World) (hT : Tb w) : Calls Tryd.prog 61 #[.int .u64 16] w fun e w' => e = .returned (.int .i64 4) ∧ w = w' := by
  go_enter Tryd.func61, Tryd.ntmps61
  go_wp2_with (go_at_call 63; (with_reducible refine (tz16_64 _ hT).mono ?_); rintro e w' ⟨rfl, rfl⟩)
  go_ret
  exact ⟨rfl, rfl⟩
set_option maxHeartbeats 400000 in
theorem pow16 (w : World) : Calls Tryd.prog 60 #[.int .i64 16] w fun e w' => e = .returned (.bool true) ∧ w = w' := by
  go_enter Tryd.func60, Tryd.ntmps60
  go_wp2
  go_ret
  exact ⟨rfl, rfl⟩
/-- The sixteen signs. -/
def hexd : ByteArray := ⟨#[48, 49, 50, 51, 52, 53, 54, 55, 56, 57, 97, 98, 99, 100, 101, 102, 103, 104, 105, 106, 107, 108, 109, 110, 111, 112, 113, 114, 115, 116, 117, 118, 119, 120, 121, 122]⟩
theorem cell_new (w : World) (cs : Array Value) (t : TypeId) (j : Nat) : (w.alloc (.cells cs t)).cell? ⟨w.heap.size, j, none⟩ = cs[j]? := by
  unfold World.cell?
  have : (w.alloc (.cells cs t)).heap[w.heap.size]? = some (.cells cs t) := by
    show (w.heap.push _)[w.heap.size]? = _
    simp
  simp only [this]
  rfl
theorem zeros_size : Tryd.zeroCells90.size = 65 := by kernel_rfl
set_option maxHeartbeats 1000000 in
theorem fmt_small (u : Nat) (w : World) (hu : u < 16) (hT : Tb w) : Calls Tryd.prog 54 #[.slice none 0 0, .int .u64 u, .int .i64 16, .bool false, .bool false] w fun e w' => e = .returned (.tuple #[.slice none 0 0, .string ⟨#[hexd[u]'(Nat.lt_trans hu (by decide))]⟩]) ∧ Below w.heap.size w w' := by
  have hlt : decide (16 ≤ (u : Int)) = false := decide_eq_false (by omega)
  have hconv : ∀ c : UInt8, (convert 48 9 (.slice (some ⟨w.heap.size, 64, none⟩) 1 1)).run Tryd.prog (w.alloc (.cells (Tryd.zeroCells90.setIfInBounds 64 (.int .u8 (c.toNat : Int))) 90)) = .ok (.string ⟨#[c]⟩) (w.alloc (.cells (Tryd.zeroCells90.setIfInBounds 64 (.int .u8 (c.toNat : Int))) 90)) := by
    intro c
    refine run_convert_bytes_back _ _ _ 5 ⟨w.heap.size, 64, none⟩ 1 [c] Tryd.underlying48 Tryd.underlying5 Tryd.underlying9 ?_
    intro j hj
    have : j = 0 := by simp at hj; omega
    subst this
    show (w.alloc _).cell? ⟨w.heap.size, 64, none⟩ = _
    rw [cell_new, Array.getElem?_setIfInBounds_self_of_lt (by rw [zeros_size]; decide)]
    rfl
  go_enter Tryd.func54, Tryd.ntmps54
  go_wp2_with (first | (go_at_call 60; (with_reducible refine (pow16 _).mono ?_); rintro e w' ⟨rfl, rfl⟩) | (go_at_call 61; (with_reducible refine (tz16 _ ?t1).mono ?_); (case t1 => exact hT.below ((Below.refl _ _).alloc (Nat.le_refl _) _)); rintro e w' ⟨rfl, rfl⟩))
  refine wp_loop_rounds 1 ?_
  rw [rounds_succ]
  go_wp2
  go_ret2
  exact ⟨rfl, (Below.refl _ _).alloc (Nat.le_refl _) _⟩
set_option maxHeartbeats 2000000 in
theorem fmt_two (u : Nat) (w : World) (hu0 : 16 ≤ u) (hu : u < 256) (hT : Tb w) : Calls Tryd.prog 54 #[.slice none 0 0, .int .u64 u, .int .i64 16, .bool false, .bool false] w fun e w' => e = .returned (.tuple #[.slice none 0 0, .string ⟨#[hexd[u / 16]'(show u / 16 < 36 by omega), hexd[u % 16]'(show u % 16 < 36 by omega)]⟩]) ∧ Below w.heap.size w w' := by
  have hge : decide (16 ≤ (u : Int)) = true := decide_eq_true (by omega)
  have hlt : decide (16 ≤ (u : Int) / 16) = false := decide_eq_false (by omega)
  have hconv : ∀ c d : UInt8, (convert 48 9 (.slice (some ⟨w.heap.size, 63, none⟩) 2 2)).run Tryd.prog (w.alloc (.cells ((Tryd.zeroCells90.setIfInBounds 64 (.int .u8 (d.toNat : Int))).setIfInBounds 63 (.int .u8 (c.toNat : Int))) 90)) = .ok (.string ⟨#[c, d]⟩) (w.alloc (.cells ((Tryd.zeroCells90.setIfInBounds 64 (.int .u8 (d.toNat : Int))).setIfInBounds 63 (.int .u8 (c.toNat : Int))) 90)) := by
    intro c d
    refine run_convert_bytes_back _ _ _ 5 ⟨w.heap.size, 63, none⟩ 2 [c, d] Tryd.underlying48 Tryd.underlying5 Tryd.underlying9 ?_
    intro j hj
    have : j = 0 ∨ j = 1 := by simp at hj; omega
    rcases this with rfl | rfl
    · show (w.alloc _).cell? ⟨w.heap.size, 63, none⟩ = _
      rw [cell_new, Array.getElem?_setIfInBounds_self_of_lt (by rw [Array.size_setIfInBounds, zeros_size]; decide)]
      rfl
    · show (w.alloc _).cell? ⟨w.heap.size, 64, none⟩ = _
      rw [cell_new, Array.getElem?_setIfInBounds_ne (by decide), Array.getElem?_setIfInBounds_self_of_lt (by rw [zeros_size]; decide)]
      rfl
  have hbit : bits .and .u64 (u : Int) 15 = ((u % 16 : Nat) : Int) := by
    have := bits_and_u64_nat u 15 (by omega) (by omega)
    rw [show ((15 : Nat) : Int) = 15 from rfl] at this
    rw [this, show (15 : Nat) = 2 ^ 4 - 1 from rfl, Nat.and_two_pow_sub_one_eq_mod]
  go_enter Tryd.func54, Tryd.ntmps54
  go_wp2_with (first | (go_at_call 60; (with_reducible refine (pow16 _).mono ?_); rintro e w' ⟨rfl, rfl⟩) | (go_at_call 61; (with_reducible refine (tz16 _ ?t1).mono ?_); (case t1 => exact hT.below ((Below.refl _ _).alloc (Nat.le_refl _) _)); rintro e w' ⟨rfl, rfl⟩))
  refine wp_loop_rounds 2 ?_
  rw [rounds_succ]
  go_wp2
  rw [rounds_succ]
  go_wp2
  go_ret2
  exact ⟨rfl, (Below.refl _ _).alloc (Nat.le_refl _) _⟩
/-- A sign's byte. -/
def hx (u : Nat) : UInt8 := hexd.data.getD u 0
theorem hx_at (u : Nat) (h : u < hexd.size) : hexd[u]'h = hx u := by
  unfold hx
  show hexd.data[u]'h = _
  exact (Array.getElem_eq_getD _)
/-- A small number's sixteener digits. -/
def hexL (u : Nat) : List UInt8 := if u < 16 then [hx u] else [hx (u / 16), hx (u % 16)]
theorem fmt_bits (u : Nat) (w : World) (hu : u < 256) (hT : Tb w) : Calls Tryd.prog 54 #[.slice none 0 0, .int .u64 u, .int .i64 16, .bool false, .bool false] w fun e w' => e = .returned (.tuple #[.slice none 0 0, .string ⟨(hexL u).toArray⟩]) ∧ Below w.heap.size w w' := by
  unfold hexL
  by_cases h : u < 16
  · rw [if_pos h, ← hx_at u (show u < 36 by omega)]
    exact fmt_small u w h hT
  · rw [if_neg h, ← hx_at (u / 16) (show u / 16 < 36 by omega), ← hx_at (u % 16) (show u % 16 < 36 by omega)]
    exact fmt_two u w (by omega) hu hT
set_option maxHeartbeats 1000000 in
theorem fmt_int (r : Int) (w : World) (h0 : 0 ≤ r) (hu : r < 256) (hT : Tb w) : Calls Tryd.prog 48 #[.int .i64 r, .int .i64 16] w fun e w' => e = .returned (.string ⟨(hexL r.toNat).toArray⟩) ∧ Below w.heap.size w w' := by
  obtain ⟨u, rfl⟩ : ∃ u : Nat, r = u := ⟨r.toNat, by omega⟩
  have hneg : decide ((u : Int) < 0) = false := decide_eq_false (by omega)
  have hw : IntKind.u64.wrap (u : Int) = (u : Int) := by rw [IntKind.wrap_u64]; omega
  have hu' : u < 256 := by omega
  clear hu
  go_enter Tryd.func48, Tryd.ntmps48
  go_wp2_with (go_at_call 54; (with_reducible refine (fmt_bits u _ hu' ?t1).mono ?_); (case t1 => first | exact hT | exact hT.below ((Below.refl _ _).alloc (Nat.le_refl _) _)); rintro e w' ⟨rfl, hb⟩)
  go_ret
  exact ⟨rfl, by first | exact hb | exact ((Below.refl _ _).alloc (Nat.le_refl _) _).trans (hb.mono (by simp))⟩
set_option maxHeartbeats 1000000 in
theorem fmt_pub (r : Int) (w : World) (h0 : 0 ≤ r) (hu : r < 256) (hT : Tb w) : Calls Tryd.prog 43 #[.int .i64 r, .int .i64 16] w fun e w' => e = .returned (.string ⟨(hexL r.toNat).toArray⟩) ∧ Below w.heap.size w w' := by
  go_enter Tryd.func43, Tryd.ntmps43
  go_wp2_with (go_at_call 48; (with_reducible refine (fmt_int r _ h0 hu hT).mono ?_); rintro e w' ⟨rfl, hb⟩)
  go_ret
  exact ⟨rfl, hb⟩
end Go.Proofs.YtapccgkkcgggiaaDoor.HandB
