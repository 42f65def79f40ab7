import Derived.Test.YtfmghijmcgkpiaaGO0
import Derived.Test.YtfmghijmcgkpiaaEd
import Derived.Lib.OthersKept
import Derived.Laws.RangeString
import Derived.Lib.Hide
namespace Go.Proofs.Ytfmghijmcgkpiaa.GT
open Go.RowKit Go.Proofs.YtfmghijmcgkpiaaW.PrintWords Go.Proofs.YtfmghijmcgkpiaaW.PrintLast Go.Proofs.Ytfmghijmcgkpiaa.HandV Go.Proofs.YtfmghijmcgkpiaaW.PrintMore
open Go.Proofs.Ytfmghijmcgkpiaa.GO
attribute [local go_sem] max2_int min2_int max_two min_two max_three min_three max_four min_four   -- for this text's walks alone
set_option linter.unusedVariables false
set_option linter.unusedSimpArgs false
-- IMPORT .Ed
-- IMPORT Derived.Lib.OthersKept
-- IMPORT Derived.Laws.RangeString
-- IMPORT Derived.Lib.Hide
set_option maxRecDepth 100000 in
set_option maxHeartbeats 4000000 in
theorem text_check_empty (w : World) : Calls Try.prog 252 #[.string ⟨#[]⟩] w fun e w' => e = .returned (.int .i64 0) ∧ Below w.heap.size w w' := by
 go_enter Try.func252, Try.ntmps252
 go_wp2
 go_loopw [] (fun wr => Hid (wr.heap[w.heap.size]? = some (.stringIter ⟨#[]⟩ 0)) ∧ Hid (Below w.heap.size w wr)) (fun _ => 0)
 case atStart => exact ⟨Lib.hid (World.iter_heap _ _ _), Lib.hid ((Below.refl _ _).alloc (Nat.le_refl _) _)⟩
 case round =>
  obtain ⟨hit, HB⟩ := hrel
  have hnx := fun ty => Lib.run_next_end_at (P := Try.prog) wr w.heap.size ⟨#[]⟩ 0 ty hit.out (by decide)
  go_wp2
  go_ret
  exact ⟨rfl, HB.out⟩
set_option maxRecDepth 100000 in
set_option maxHeartbeats 4000000 in
theorem text_runes_empty (w : World) : Calls Try.prog 186 #[.string ⟨#[]⟩] w fun e w' => e = .returned (.slice none 0 0) ∧ Below w.heap.size w w' := by
 go_enter Try.func186, Try.ntmps186
 go_wp2
 go_loopw [3] (fun v wr => v = .slice none 0 0 ∧ Hid (wr.heap[w.heap.size]? = some (.stringIter ⟨#[]⟩ 0)) ∧ Hid (Below w.heap.size w wr)) (fun _ _ => 0)
 case atStart => exact ⟨rfl, Lib.hid (World.iter_heap _ _ _), Lib.hid ((Below.refl _ _).alloc (Nat.le_refl _) _)⟩
 case round =>
  obtain ⟨rfl, hit, HB⟩ := hrel
  have hnx := fun ty => Lib.run_next_end_at (P := Try.prog) wr w.heap.size ⟨#[]⟩ 0 ty hit.out (by decide)
  go_wp2
  go_ret
  exact ⟨rfl, HB.out⟩
set_option maxRecDepth 100000 in
set_option maxHeartbeats 4000000 in
theorem long_empty (w : World) : Calls Try.prog 249 #[.string ⟨#[]⟩] w fun e w' => e = .returned (.int .i64 0) ∧ Below w.heap.size w w' := by
 go_enter Try.func249, Try.ntmps249
 go_wp2_with (first | (go_at_call 252; refine (text_check_empty _).mono ?_; rintro e w1 ⟨rfl, hb⟩; have HB1 := Aside0.mk hb; clear hb) | (go_at_call 186; refine (text_runes_empty _).mono ?_; rintro e w2 ⟨rfl, hb⟩; have HB2 := Aside0.mk (below_step HB1.out hb); clear hb))
 go_ret
 exact ⟨rfl, HB2.out⟩
set_option maxRecDepth 100000 in
set_option maxHeartbeats 4000000 in
theorem name_A (w : World) : Calls Try.prog 262 #[.string ⟨#[65]⟩] w fun e w' => e = .returned (.bool true) ∧ Below w.heap.size w w' := by
 go_enter Try.func262, Try.ntmps262
 go_wp2
 go_loopw [] (fun wr => ∃ pos : Nat, Hid (wr.heap[w.heap.size]? = some (.stringIter ⟨#[65]⟩ pos)) ∧ Hid (Below w.heap.size w wr) ∧ pos ≤ 1) (fun wr => 1 - wr.iterPos w.heap.size)
 case atStart => exact ⟨0, Lib.hid (World.iter_heap _ _ _), Lib.hid ((Below.refl _ _).alloc (Nat.le_refl _) _), by omega⟩
 case round =>
  obtain ⟨pos, hit, HB, hfu⟩ := hrel
  have HM := Lib.hid (show wr.iterPos w.heap.size = pos by simp [World.iterPos, hit.out])
  by_cases hp : pos = 0
  ·
   subst hp
   have hnx := fun ty => Lib.run_next_any_at (P := Try.prog) wr w.heap.size ⟨#[65]⟩ 0 ty hit.out (by decide)
   have hdec : Utf8.decode (⟨#[65]⟩ : ByteArray) 0 = (65, 1) := by decide +kernel
   have hit2 := Lib.hid (Lib.iterAt_heap wr w.heap.size ⟨#[65]⟩ 0 (0 + (Utf8.decode ⟨#[65]⟩ 0).2) hit.out)
   have hb2 := Lib.hid (Lib.below_iterAt HB.out (k := w.heap.size) (Nat.le_refl _) ⟨#[65]⟩ (0 + (Utf8.decode ⟨#[65]⟩ 0).2))
   rw [hdec] at hnx hit2 hb2
   dsimp only at hnx hit2 hb2
   clear hdec HB hit
   generalize wr.iterAt w.heap.size ⟨#[65]⟩ (0 + 1) = wn at hnx hit2 hb2
   go_wp2
   go_roundw
   case rel => exact ⟨1, hit2, hb2, by omega⟩
   case measure =>
    have h1 := HM.out
    have h2 := hit2.out
    simp only [World.iterPos] at *
    simp [h1, h2]
  ·
   obtain rfl : pos = 1 := by omega
   have hnx := fun ty => Lib.run_next_end_at (P := Try.prog) wr w.heap.size ⟨#[65]⟩ 1 ty hit.out (by decide)
   go_wp2
   go_ret
   exact ⟨rfl, HB.out⟩
theorem add_zero_T (ad : Addr) : ad.add 0 = ad := by simp [Addr.add]
set_option maxRecDepth 100000 in
set_option maxHeartbeats 4000000 in
theorem uid_check_A (w : World) : Calls Try.prog 260 #[.agg #[.string ⟨#[65]⟩, .string ⟨#[]⟩]] w fun e w' => e = .returned (.int .i64 0) ∧ Below w.heap.size w w' := by
 go_enter Try.func260, Try.ntmps260
 go_wp2_with (first | (go_at_call 262; refine (name_A _).mono ?_; rintro e w1 ⟨rfl, hb⟩; have HB1 : Aside0 (Below w.heap.size w w1) := ⟨below_step (by repeat (first | exact Below.refl _ _ | apply below_alloc)) hb⟩; have r1 : w1.cell? ⟨w.heap.size, 1, none⟩ = some (.string ⟨#[]⟩) := (hb.cell (p := ⟨w.heap.size, 1, none⟩) (by simp)).trans (by go_simp); clear hb) | (go_at_call 249; refine (long_empty _).mono ?_; rintro e w2 ⟨rfl, hb⟩; have HB2 := Aside0.mk (below_step HB1.out hb); clear hb))
 go_ret
 exact ⟨rfl, HB2.out⟩
set_option maxRecDepth 100000 in
set_option maxHeartbeats 4000000 in
theorem check_A (w : World) : Calls Try.prog 155 #[.agg #[.int .i64 4, .bool false, .int .i64 0, .string ⟨#[]⟩, .string ⟨#[65]⟩, .string ⟨#[]⟩, .slice none 0 0]] w fun e w' => e = .returned (.int .i64 0) ∧ Below w.heap.size w w' := by
 have hE : ofRest false 0 (⟨#[]⟩ : ByteArray).toList [] [] 0 = 0 := by decide +kernel
 have hm : ∀ (v : Value) (w : World), Sem.run Try.prog (method 427 190 v "chancel/value.check") w = .ok (260, v) w := fun v w => by first | kernel_rfl | rfl
 have hv := fun W => value_of4 false 0 ⟨#[]⟩ ⟨#[65]⟩ ⟨#[]⟩ none 0 0 W
 rw [hE] at hv
 go_enter Try.func155, Try.ntmps155
 go_wp2_with (first | (go_at_call 80; refine (hv _).mono ?_; rintro e w1 ⟨rfl, hb⟩; have HB1 : Aside0 (Below w.heap.size w w1) := ⟨below_step (by repeat (first | exact Below.refl _ _ | apply below_alloc)) hb⟩; clear hb) | (go_at_call 260; refine (uid_check_A _).mono ?_; rintro e w2 ⟨rfl, hb⟩; have HB2 := Aside0.mk (below_step HB1.out hb); clear hb))
 go_ret
 exact ⟨rfl, HB2.out⟩
set_option maxRecDepth 100000 in
set_option maxHeartbeats 4000000 in
theorem ents_uid_A (w : World) : Calls Try.prog 125 #[.agg #[.string ⟨#[65]⟩, .string ⟨#[]⟩]] w fun e w' => e = .returned (.int .i64 0) ∧ Below w.heap.size w w' := by
 go_enter Try.func125, Try.ntmps125
 go_wp2_with (go_at_call 155; refine (check_A _).mono ?_; rintro e w1 ⟨rfl, hb⟩; have HB1 : Aside0 (Below w.heap.size w w1) := ⟨below_step (by repeat (first | exact Below.refl _ _ | apply below_alloc)) hb⟩; clear hb)
 go_ret
 exact ⟨rfl, HB1.out⟩
set_option maxRecDepth 100000 in
set_option maxHeartbeats 4000000 in
theorem parents_nil (A : Option Addr) (c : Nat) (w : World) : Calls Try.prog 126 #[.slice A 0 c] w fun e w' => e = .returned (.int .i64 0) ∧ Below w.heap.size w w' := by
 go_enter Try.func126, Try.ntmps126
 go_wp2
 go_loopw [11] (fun i wr => i = .int .i64 0 ∧ Aside0 (Below w.heap.size w wr)) (fun _ _ => 0)
 case atStart => exact ⟨rfl, ⟨Below.refl _ _⟩⟩
 case round =>
  obtain ⟨rfl, HB⟩ := hrel
  go_wp2
  go_ret
  exact ⟨rfl, HB.out⟩
set_option maxRecDepth 100000 in
set_option maxHeartbeats 4000000 in
theorem attrs_nil (A : Option Addr) (c : Nat) (w : World) : Calls Try.prog 127 #[.slice A 0 c] w fun e w' => e = .returned (.int .i64 0) ∧ Below w.heap.size w w' := by
 go_enter Try.func127, Try.ntmps127
 go_wp2
 go_loopw [11] (fun i wr => i = .int .i64 0 ∧ Aside0 (Below w.heap.size w wr)) (fun _ _ => 0)
 case atStart => exact ⟨rfl, ⟨Below.refl _ _⟩⟩
 case round =>
  obtain ⟨rfl, HB⟩ := hrel
  go_wp2
  go_ret
  exact ⟨rfl, HB.out⟩
set_option maxRecDepth 100000 in
set_option maxHeartbeats 8000000 in
theorem ents_check_A (A : Option Addr) (c : Nat) (w : World) (hC : k46.C w A 1 [⟨⟨⟨#[65]⟩, ⟨#[]⟩⟩, [], []⟩]) : Calls Try.prog 83 #[.slice A 1 c] w fun e w' => e = .returned (.int .i64 0) ∧ Below w.heap.size w w' := by
 have HC := Aside0.mk hC
 clear hC
 go_enter Try.func83, Try.ntmps83
 go_wp2
 go_loopw [13] (fun i wr => ∃ k : Nat, k ≤ 1 ∧ i = .int .i64 (k : Int) ∧ Aside0 (Below w.heap.size w wr)) (fun i _ => 1 - (intOf i).toNat)
 case atStart => exact ⟨0, Nat.zero_le _, rfl, ⟨Below.refl _ _⟩⟩
 case round =>
  obtain ⟨k, hk, rfl, HB⟩ := hrel
  by_cases h0 : k = 0
  ·
   subst h0
   obtain ⟨ad, A2, c2, A3, c3, rfl, z0, z1, z2, z3, _⟩ := ent_at (Kd.C_below HC.out HB.out) 0 _ rfl
   dsimp only [List.length_nil] at z0 z1 z2 z3
   rw [Nat.zero_mul, add_zero_T] at z0 z1 z2 z3
   have hab : ad.block < wr.heap.size := World.block_lt_of_cell? _ _ z0
   have han : ¬ ad.block = wr.heap.size := Nat.ne_of_lt hab
   go_wp2_with (first | (go_at_call 125; refine (ents_uid_A _).mono ?_; rintro e w1 ⟨rfl, hb⟩; have HB1 : Aside0 (Below w.heap.size w w1) := ⟨below_step (by repeat (first | exact HB.out | apply below_alloc)) hb⟩; have hs1 : wr.heap.size < w1.heap.size := (by have := hb.size; simp at this; omega); have q2 : w1.cell? ⟨wr.heap.size, 2, none⟩ = some (.slice A2 0 c2) := (hb.cell (p := ⟨wr.heap.size, 2, none⟩) (by simp)).trans (by go_simp); have q3 : w1.cell? ⟨wr.heap.size, 3, none⟩ = some (.slice A3 0 c3) := (hb.cell (p := ⟨wr.heap.size, 3, none⟩) (by simp)).trans (by go_simp); have HQ3 := Aside0.mk q3; clear hb) | (go_at_call 126; refine (parents_nil A2 c2 _).mono ?_; rintro e w2 ⟨rfl, hb⟩; have HB2 := Aside0.mk (below_step HB1.out hb); have q3 : w2.cell? ⟨wr.heap.size, 3, none⟩ = some (.slice A3 0 c3) := (hb.cell (p := ⟨wr.heap.size, 3, none⟩) hs1).trans HQ3.out; clear hb) | (go_at_call 127; refine (attrs_nil A3 c3 _).mono ?_; rintro e w3 ⟨rfl, hb⟩; have HB3 := Aside0.mk (below_step HB2.out hb); clear hb))
   go_quiet (fail)
   go_wp2
   go_roundw
   case rel => exact ⟨1, Nat.le_refl _, by first | rfl | go_num, ⟨by repeat (first | exact HB3.out | apply pw_below_drewN | apply below_drew1)⟩⟩
   case measure => simp [intOf]
  ·
   obtain rfl : k = 1 := by omega
   go_wp2
   go_ret
   exact ⟨rfl, HB.out⟩
theorem results_two {P : Program} {fn : Func} {p u : Tmp} {ty : TypeId} (h : fn.results = #[.cell p ty, .tmp u]) (tmps : Array Value) (w : World) (g : Nat) (t : TypeId) (cs : Array Value) (fr : Nat × Nat) (d : TypeDesc)
  (hp : tmps.getD p undef = .pointer (some ⟨g, 0, none⟩)) (hg : w.heap[g]? = some (.cells cs t fr))
  (hu : P.underlying ty = some d) (hd : (match d with | .struct _ | .array _ _ => true | _ => false) = true) (hi : (P.info? ty).map (·.size) = some cs.size) :
  (results fn tmps).run P w = .ok (.tuple #[.agg cs, tmps.getD u undef]) w := by
 rw [results_cell_tmp h, hp]
 simp [asAddr, run_loadVar_row w g t ty cs fr d hg hu hd hi, Result.andThen]
set_option maxRecDepth 100000 in
set_option maxHeartbeats 8000000 in
theorem ents_get_none (A3 A2 : Option Addr) (c2 c3 : Nat) (u0 u1 : ByteArray) (nm : ByteArray) (w : World) : Calls Try.prog 25 #[.agg #[.string u0, .string u1, .slice A2 0 c2, .slice A3 0 c3], .string nm] w fun e w' => e = .returned (.tuple #[.agg #[.int .i64 0, .bool false, .int .i64 0, .string ⟨#[]⟩, .string ⟨#[]⟩, .string ⟨#[]⟩, .slice none 0 0], .bool false]) ∧ Below w.heap.size w w' := by
 go_enter Try.func25, Try.ntmps25
 go_wp2
 go_loopw [11] (fun i wr => i = .int .i64 0 ∧ Aside0 (Below w.heap.size w wr) ∧ Aside0 (wr.heap[w.heap.size + 1]? = some (.cells #[.int .i64 0, .bool false, .int .i64 0, .string ⟨#[]⟩, .string ⟨#[]⟩, .string ⟨#[]⟩, .slice none 0 0] 31 (0, 0)))) (fun _ _ => 0)
 case atStart => exact ⟨rfl, ⟨by repeat (first | exact Below.refl _ _ | apply below_alloc)⟩, ⟨heap_at _ _ _ (by simp)⟩⟩
 case round =>
  obtain ⟨rfl, HB, HX⟩ := hrel
  have hx := HX.out
  have s0 : wr.cell? ⟨w.heap.size + 1, 0, none⟩ = some (.int .i64 0) := hcellT hx 0 _ rfl
  have s1 : wr.cell? ⟨w.heap.size + 1, 1, none⟩ = some (.bool false) := hcellT hx 1 _ rfl
  have s2 : wr.cell? ⟨w.heap.size + 1, 2, none⟩ = some (.int .i64 0) := hcellT hx 2 _ rfl
  have s3 : wr.cell? ⟨w.heap.size + 1, 3, none⟩ = some (.string ⟨#[]⟩) := hcellT hx 3 _ rfl
  have s4 : wr.cell? ⟨w.heap.size + 1, 4, none⟩ = some (.string ⟨#[]⟩) := hcellT hx 4 _ rfl
  have s5 : wr.cell? ⟨w.heap.size + 1, 5, none⟩ = some (.string ⟨#[]⟩) := hcellT hx 5 _ rfl
  have s6 : wr.cell? ⟨w.heap.size + 1, 6, none⟩ = some (.slice none 0 0) := hcellT hx 6 _ rfl
  have sf : ∀ i, wr.frozen? ⟨w.heap.size + 1, i, none⟩ = false := fun i => blk_frozen hx i
  clear hx
  go_wp2
  (try simp only [Exit.inBlock, Exit.then])
  have hd := setCells_heapT (w.heap.size + 1) 31 (0, 0) [.int .i64 0, .bool false, .int .i64 0, .string ⟨#[]⟩, .string ⟨#[]⟩, .string ⟨#[]⟩, .slice none 0 0] 0 wr _ HX.out (by simp)
  have hbl := HB.out.trans (below_cellsT (B := w.heap.size) (w.heap.size + 1) (by omega) [.int .i64 0, .bool false, .int .i64 0, .string ⟨#[]⟩, .string ⟨#[]⟩, .string ⟨#[]⟩, .slice none 0 0] 0 wr)
  simp only [World.setCells] at hd hbl
  refine bodyPost_ret (results_two rfl _ _ (w.heap.size + 1) 31 _ (0, 0) _ rfl hd Try.underlying31 rfl (by kernel_rfl)) rfl ?_
  exact ⟨rfl, hbl⟩
set_option maxRecDepth 100000 in
set_option maxHeartbeats 8000000 in
theorem known8_calls (w : World) : Calls Try.prog 23 #[] w fun e w' => e = .returned (.bool true) ∧ Below w.heap.size w w' := by
 have hp : putF [] ⟨⟨⟨#[65]⟩, ⟨#[]⟩⟩, [], []⟩ = [⟨⟨⟨#[65]⟩, ⟨#[]⟩⟩, [], []⟩] := rfl
 have hput := fun W => put_calls [] (Nat.zero_le _) (fun x hx => by cases hx) ⟨⟨⟨#[65]⟩, ⟨#[]⟩⟩, [], []⟩ rfl none 0 none 0 none 0 W (Nat.zero_le _) (Kd.C_nil _ _) (Nat.zero_le _) (Kd.C_nil _ _) (Nat.zero_le _) (Kd.C_nil _ _)
 rw [hp] at hput
 have HPUT := Aside0.mk hput
 clear hput hp
 go_enter Try.func23, Try.ntmps23
 go_wp2_with (first | (go_at_call 25; refine (ents_get_none none none 0 0 ⟨#[]⟩ ⟨#[]⟩ ⟨#[97]⟩ _).mono ?_; rintro e w1 ⟨rfl, hb⟩; have HB1 := Aside0.mk hb; clear hb) | (go_at_call 28; refine (HPUT.out _).mono ?_; rintro e w2 ⟨v, rfl, hV, hb⟩; obtain ⟨A, c, rfl⟩ := Kd.V_slice hV; have HB2 := Aside0.mk (below_step (by repeat (first | exact HB1.out | apply below_alloc)) hb); have HV := Aside0.mk hV; clear hV hb; have hl1 : ([⟨⟨⟨#[65]⟩, ⟨#[]⟩⟩, [], []⟩] : List S46).length = 1 := rfl; rw [hl1]) | (go_at_call 83; refine (ents_check_A A c _ (Kd.V_reads' HV.out).2.2).mono ?_; rintro e w3 ⟨rfl, hb⟩; have HB3 := Aside0.mk (below_step HB2.out hb); clear hb))
 go_ret
 exact ⟨rfl, HB3.out⟩
end Go.Proofs.Ytfmghijmcgkpiaa.GT
