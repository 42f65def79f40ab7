import Derived.Test.YtelibndkkokadaaGB0
import Derived.Test.YtelibndkkokadaaCH1
import Derived.Test.YtelibndkkokadaaJb
import Derived.Test.YtelibndkkokadaaJc
import Derived.Test.YtelibndkkokadaaSqz
import Derived.Test.YtelibndkkokadaaGBw
import Derived.Deep.RegionWith
import Derived.Deep.CutRange
import Derived.Deep.LoopGhost
import Derived.Laws.BytesString
import Derived.Test.YtelibndkkokadaaJk
import Derived.Test.YtelibndkkokadaaGB17
namespace Go.Proofs.Ytelibndkkokadaa.GA
open Go.RowKit Go.Proofs.YtelibndkkokadaaW.PrintWords Go.Proofs.YtelibndkkokadaaW.PrintLast Go.Proofs.Ytelibndkkokadaa.HandV Go.Proofs.YtelibndkkokadaaW.PrintMore
open Go.Proofs.Ytelibndkkokadaa.GB
attribute [local go_sem] max2_int min2_int max_two min_two max_three min_three max_four min_four   -- for this text's walks alone
set_option linter.unusedVariables false
set_option linter.unusedSimpArgs false
-- IMPORT .CH1
-- IMPORT .A9
-- IMPORT .A11
-- IMPORT .Sqz
-- IMPORT .GBw
-- FN above_Below
-- IMPORT Derived.Deep.RegionWith
-- IMPORT Derived.Deep.CutRange
-- IMPORT Derived.Deep.LoopGhost
-- IMPORT Derived.Laws.BytesString
-- IMPORT .GB1
open GP (cu cs cE par chain chain_len chain_snoc chain_at okL_chain okU_cu)
theorem within9_calls (a m : Int) (hm : 0 < m) (hm2 : m ≤ 1000000) (w : World) : Calls Try.prog 25 #[.int .i64 a, .int .i64 m] w fun e w' => ∃ r : Nat, e = .returned (.int .i64 (r : Int)) ∧ (r : Int) < m ∧ Below w.heap.size w w' := by
  obtain ⟨r, hr, h0, h1⟩ : ∃ r, chancellaw9_within.f a m = some r ∧ 0 ≤ r ∧ r < m := by
    unfold chancellaw9_within.f
    have h1 := Int.tmod_lt_of_pos a hm
    have h2 := GP.tmod_gt a m hm
    rw [if_neg (by omega)]
    split
    · exact ⟨_, rfl, by rw [GP.wr_id (by omega) (by omega)]; omega, by rw [GP.wr_id (by omega) (by omega)]; omega⟩
    · exact ⟨_, rfl, by omega, h1⟩
  obtain ⟨k, rfl⟩ : ∃ k : Nat, r = (k : Int) := ⟨r.toNat, by omega⟩
  exact (chancellaw9_within.calls a m k w hr).mono fun e w' ⟨he, nd, hw⟩ => ⟨k, he, h1, by rw [hw]; exact pw_below_drewN (Below.refl _ _) nd⟩
abbrev str1 (b : Int) : ByteArray := [b].foldl (fun r n => r.push (UInt8.ofNat n.toNat)) ByteArray.empty
theorem conv0 (W : World) (b : Int) : Sem.run Try.prog (convert 45 9 (.slice (some ⟨W.heap.size, 0, none⟩) 1 1)) (W.alloc (.cells #[.int .u8 b] 5)) = .ok (.string (str1 b)) (W.alloc (.cells #[.int .u8 b] 5)) := by
  have h0 : (W.alloc (.cells #[.int .u8 b] 5)).cell? ⟨W.heap.size, 0, none⟩ = some (.int .u8 b) := (blk_cell (blk_new _ _) 0).trans rfl
  exact (run_convert_bytes_string _ _ _ _ _ _ _ Try.underlying45 (by kernel_rfl) Try.underlying9).trans (run_bytesToString _ _ 1 1 [b] (by simp [go_sem, h0]))
theorem str1_cs (i : Nat) (h : i < 15) : str1 (97 + (i : Int)) = cs i := by
  have : (97 + (i : Int)).toNat = 97 + i := by omega
  show (ByteArray.empty.push (UInt8.ofNat (97 + (i : Int)).toNat)) = _
  rw [this]; rfl
theorem conv1 (i : Nat) (h : i < 15) (W : World) : Sem.run Try.prog (convert 45 9 (.slice (some ⟨W.heap.size, 0, none⟩) 1 1)) (W.alloc (.cells #[.int .u8 (97 + (i : Int))] 5)) = .ok (.string (cs i)) (W.alloc (.cells #[.int .u8 (97 + (i : Int))] 5)) := by
  rw [← str1_cs i h]; exact conv0 W _
theorem conv2 (i : Nat) (h : i < 14) (W : World) : Sem.run Try.prog (convert 45 9 (.slice (some ⟨W.heap.size, 0, none⟩) 1 1)) (W.alloc (.cells #[.int .u8 (98 + (i : Int))] 5)) = .ok (.string (cs (i + 1))) (W.alloc (.cells #[.int .u8 (98 + (i : Int))] 5)) := by
  have := conv1 (i + 1) (by omega) W
  rwa [show 97 + ((i + 1 : Nat) : Int) = 98 + (i : Int) by omega] at this
theorem one_F {W : World} {g : Nat} {u : U} {e : Nat} {ok : Nat → Prop} (h : W.heap[g]? = some (.cells #[.string u.f0, .string u.f1] e (0, 0))) (hok : ok g) : Kd.F k28 W ok (some ⟨g, 0, none⟩) 1 [u] := fun W' hW => one_C ((hW g hok (GT.lt_of_heapT h)).trans h)
theorem nil_F {α : Type} {d : Kd α} {W : World} {ok : Nat → Prop} {A : Option Addr} : Kd.F d W ok A 0 ([] : List α) := fun W' _ => ⟨rfl, by simp, fun h => absurd h (by simp)⟩
theorem ent_at {W : World} {A : Option Addr} {l : List En} (h : k38.C W A l.length l) {i : Nat} (hi : i < l.length) : ∃ ad, A = some ad ∧ W.cell? (ad.add (i * 4)) = some (.string l[i].f0.f0) ∧ W.cell? ⟨(ad.add (i * 4)).block, (ad.add (i * 4)).off + 1, none⟩ = some (.string l[i].f0.f1) := by
  obtain ⟨ad, A2, c2, A3, c3, rfl, g0, g1, _⟩ := at_T38 h (i : Int) (by omega) (by omega)
  rw [GP.rdE_at hi, Int.toNat_natCast] at g0 g1
  exact ⟨ad, rfl, g0, g1⟩
theorem blk_new2 (w : World) (o1 o2 : Obj) : ((w.alloc o1).alloc o2).heap[w.heap.size + 1]? = some o2 := by
  have h := blk_new (w.alloc o1) o2
  have hs : (w.alloc o1).heap.size = w.heap.size + 1 := by simp
  rw [hs] at h
  exact h
/-- The call's own row of the chain's first entities. -/
structure SC (w : World) (n : Nat) (ring : Bool) (i : Nat) (v : Value) (W : World) : Prop where
  hn : Kd.N k38 38 W w.heap.size (fun q => w.heap.size ≤ q) v (chain n ring i)
  be : Below w.heap.size w W
/-- One entity of the chain, ready to be put behind the others. -/
structure SP (wr : World) (i ge : Nat) (P : List U) (Ap : Option Addr) (cp : Nat) (W : World) : Prop where
  hx : W.heap[ge]? = some (.cells #[.string ⟨#[84]⟩, .string (cs i), .slice Ap P.length cp, .slice none 0 0] 38 (0, 0))
  hf : Kd.F k28 W (fun q => wr.heap.size ≤ q) Ap P.length P
  hc : P.length ≤ cp
  hb : Below wr.heap.size wr W
theorem SC.step {w W W' : World} {n : Nat} {ring : Bool} {i : Nat} {v : Value} (h : SC w n ring i v W) (hb : Below W.heap.size W W') : SC w n ring i v W' := ⟨Kd.N_below h.hn hb, below_step h.be hb⟩
def rc18_T : Bool × List (List Nat × List Nat) := (true, [([], []), ([], []), ([], []), ([1, 2], [1, 2]), ([3], [3]), ([4], [4]), ([], []), ([], []), ([6, 7], [6, 7]), ([8], [8]), ([9], [9]), ([0, 5, 10], [0, 5, 10]), ([], []), ([12, 11], [12]), ([13], [13]), ([13], [13]), ([14, 15, 13], [13, 14, 15]), ([13, 16], [13, 16]), ([11, 17], [11, 17])])
def rc18_B : List Nat := [0, 0, 0, 6, 14, 30, 0, 0, 192, 448, 960, 2047, 0, 8191, 16383, 16383, 65535, 131071, 262143]
theorem rc18_tab : rtab .any (opsOf Try.f8 18) = rc18_T := by kernel_rfl
theorem rc18_bits : waitsOk rc18_T.2 rc18_B = true := by kernel_rfl
def rc22_T : Bool × List (List Nat × List Nat) := (true, [([], []), ([], []), ([], []), ([1, 2], [1, 2]), ([3], [3]), ([4], [4]), ([0, 5], [0, 5]), ([6], [6]), ([], []), ([8], [8]), ([], []), ([9, 10], [9, 10]), ([7, 11], [7, 11]), ([12, 6], [12]), ([13], [13]), ([13], [13]), ([13], [13]), ([15, 16, 13], [13, 15, 16]), ([17, 13], [13, 17]), ([18, 13], [13, 18]), ([14, 19, 13, 13], [13, 14, 19]), ([20, 13], [13, 20]), ([13], [13]), ([21, 22, 13], [13, 21, 22]), ([13, 23], [13, 23]), ([24, 20], [24]), ([25], [25]), ([25], [25]), ([25], [25]), ([28, 25], [25, 28]), ([27, 29, 25], [25, 27, 29]), ([30, 25], [25, 30]), ([31, 25], [25, 31]), ([25], [25]), ([25], [25]), ([33, 34, 25], [25, 33, 34]), ([35, 25], [25, 35]), ([36, 25], [25, 36]), ([37, 25], [25, 37]), ([26, 32, 38, 25, 25], [25, 26, 32, 38]), ([25, 39], [25, 39]), ([40, 39], [40]), ([41], [41]), ([41], [41]), ([43, 41], [41, 43]), ([44, 41], [41, 44]), ([45, 41], [41, 45]), ([41], [41]), ([47, 41], [41, 47]), ([42, 46, 48, 41, 41], [41, 42, 46, 48]), ([49, 41], [41, 49]), ([41, 50], [41, 50]), ([51, 49, 0, 1, 2, 3, 4, 5, 6, 7, 8, 9, 10, 11, 12, 13, 14, 15, 16, 17, 18, 19, 20, 21, 22, 23, 24, 25, 26, 27, 28, 29, 30, 31, 32, 33, 34, 35, 36, 37, 38, 39, 40, 41, 42, 43, 44, 45, 46, 47, 48, 49, 50, 51], [51])])
def rc22_B : List Nat := [0, 0, 0, 6, 14, 30, 63, 127, 0, 256, 0, 1792, 4095, 8191, 16383, 16383, 16383, 114687, 245759, 507903, 1048575, 2097151, 16383, 8388607, 16777215, 33554431, 67108863, 67108863, 67108863, 335544319, 1006632959, 2080374783, 4227858431, 67108863, 67108863, 25836912639, 60196651007, 128916127743, 266355081215, 549755813887, 1099511627775, 2199023255551, 4398046511103, 4398046511103, 13194139533311, 30786325577727, 65970697666559, 4398046511103, 145135534866431, 562949953421311, 1125899906842623, 2251799813685247, 4503599627370495]
theorem rc22_tab : rtab .any (opsOf Try.f8 22) = rc22_T := by kernel_rfl
theorem rc22_bits : waitsOk rc22_T.2 rc22_B = true := by kernel_rfl
set_option maxRecDepth 100000 in
set_option maxHeartbeats 16000000 in
theorem chain_calls (a t : Int) (ring : Bool) (w : World) : Calls Try.prog 8 #[.int .i64 a, .int .i64 t, .bool ring] w fun e w' => e = .returned (.bool true) ∧ Below w.heap.size w w' := by
  go_enter Try.func8, Try.ntmps8
  go_upto_region 3 with (first | (go_at_call 13; refine (known9_calls _).mono ?_; rintro e w1 ⟨rfl, hb⟩; have HB := Aside0.mk hb; clear hb))
  go_cut [0] from 14 to 16 (fun v0 wx => ∃ n : Nat, v0 = .int .i64 (n : Int) ∧ (2 ≤ n ∧ n ≤ 14) ∧ Aside0 (Below w.heap.size w wx))
  case first =>
    go_wp2_with (first | (go_at_call 25; refine (within9_calls a 13 (by decide) (by decide) _).mono ?_; rintro e w2 ⟨r, rfl, hr, hb⟩; have HB2 : Aside0 (Below w.heap.size w w2) := ⟨below_step HB.out hb⟩; have Hr := Aside0.mk hr; have hw : IntKind.i64.wrap (2 + (r : Int)) = ((r + 2 : Nat) : Int) := ((i64_w _).trans ((GP.wr_id (by omega) (by omega)).trans (by omega))); clear hr hb))
    go_meet
    case rel => exact ⟨r + 2, rfl, ⟨by omega, by have := Hr.out; omega⟩, HB2⟩
  case rest =>
    clear HB
    obtain ⟨n, rfl, hn, HB⟩ := hcut
    have HN := Aside0.mk hn
    clear hn
    go_wp2
    go_loopg [7, 8] n (fun g v7 v8 wx => ∃ i : Nat, v8 = .int .i64 (i : Int) ∧ i ≤ n ∧ g = n - i ∧ Aside0 (SC w n ring i v7 wx))
    case atStart => exact ⟨0, rfl, by omega, rfl, ⟨Kd.N_nil _ _ _ _ _, HB.out⟩⟩
    case round =>
      clear HB
      obtain ⟨i, rfl, hi, rfl, HS⟩ := hrel
      obtain ⟨A7, c7, rfl⟩ := Kd.N_slice HS.out.hn
      have hn7 := HS.out.hn
      generalize hL : chain n ring i = L at hn7 ⊢
      have HN7 := Aside0.mk hn7
      have HB7 := Aside0.mk HS.out.be
      have HLL : Aside0 (L.length = i) := ⟨by rw [← hL]; exact chain_len n ring i⟩
      have HLC : Aside0 (chain n ring i = L) := ⟨hL⟩
      clear hL HS hn7
      have Hi := Aside0.mk hi
      clear hi
      by_cases hin : i < n
      · obtain ⟨P, hP⟩ : ∃ P, par n ring i = P := ⟨_, rfl⟩
        have HPV : Aside0 (P = if i + 1 < n then [cu (i + 1)] else if ring = true then [cu 0] else []) := ⟨hP ▸ rfl⟩
        have HFIN : Aside0 (∀ v W, Kd.N k38 38 W w.heap.size (fun q => w.heap.size ≤ q) v (L ++ [⟨cu i, P, []⟩]) → Below w.heap.size w W → SC w n ring (i + 1) v W) := ⟨fun v W h1 h2 => ⟨by rw [chain_snoc, HLC.out]; unfold cE; rw [hP]; exact h1, h2⟩⟩
        clear hP
        have p1 : ((i : Int) < (n : Int)) = True := eq_true (by omega)
        have HI := Aside0.mk hin
        have hw : IntKind.i64.wrap (97 + (i : Int)) = 97 + (i : Int) := (i64_w _).trans (GP.wr_id (by omega) (by have := HN.out; omega))
        have hw2 : IntKind.i64.wrap (98 + (i : Int)) = 98 + (i : Int) := (i64_w _).trans (GP.wr_id (by omega) (by have := HN.out; omega))
        have hc : (97 + (i : Int)) % 256 = 97 + (i : Int) := Int.emod_eq_of_lt (by omega) (by have := HN.out; omega)
        have hc2 : (98 + (i : Int)) % 256 = 98 + (i : Int) := Int.emod_eq_of_lt (by omega) (by have := HN.out; omega)
        have hcv := conv1 i (by have := HN.out; omega)
        go_upto_region 9 with (fail)
        clear hcv hw hc p1
        have HX : Aside0 (((wr.alloc (.cells #[.int .u8 (97 + (i : Int))] 5)).alloc (.cells #[.string ⟨#[84]⟩, .string (cs i), .slice none 0 0, .slice none 0 0] 38)).heap[wr.heap.size + 1]? = some (.cells #[.string ⟨#[84]⟩, .string (cs i), .slice none 0 0, .slice none 0 0] 38 (0, 0))) := ⟨blk_new2 wr _ _⟩
        have HB3 : Aside0 (Below wr.heap.size wr ((wr.alloc (.cells #[.int .u8 (97 + (i : Int))] 5)).alloc (.cells #[.string ⟨#[84]⟩, .string (cs i), .slice none 0 0, .slice none 0 0] 38))) := ⟨below_alloc (below_alloc (Below.refl _ _) _) _⟩
        have Hge : Aside0 (wr.heap.size ≤ wr.heap.size + 1) := ⟨by omega⟩
        generalize (wr.alloc (.cells #[.int .u8 (97 + (i : Int))] 5)).alloc (.cells #[.string ⟨#[84]⟩, .string (cs i), .slice none 0 0, .slice none 0 0] 38) = w3 at HX HB3 ⊢
        generalize wr.heap.size + 1 = ge at HX Hge ⊢
        have hw3 : IntKind.i64.wrap ((i : Int) + 1) = (i : Int) + 1 := (i64_w _).trans (GP.wr_id (by omega) (by have := HN.out; omega))
        have x2 : w3.cell? ⟨ge, 2, none⟩ = some (.slice none 0 0) := (blk_cell HX.out 2).trans rfl
        have f2 := blk_frozen HX.out 2
        by_cases h1 : i + 1 < n
        case' pos =>
          have p2 : ((i : Int) + 1 < (n : Int)) = True := eq_true (by omega)
          have hcv := conv2 i (by have := HN.out; omega)
          have HPP : Aside0 (P = [cu (i + 1)]) := ⟨by rw [HPV.out, if_pos h1]⟩
          have xq : ∀ o1 o2, ((w3.alloc o1).alloc o2).cell? ⟨ge, 2, none⟩ = some (.slice none 0 0) := fun o1 o2 => (blk_cell (blk_alloc (blk_alloc HX.out o1) o2) 2).trans rfl
          have fq : ∀ o1 o2, ((w3.alloc o1).alloc o2).frozen? ⟨ge, 2, none⟩ = false := fun o1 o2 => blk_frozen (blk_alloc (blk_alloc HX.out o1) o2) 2
          go_upto_region 13 with (fail)
          clear hcv p2 h1 x2 f2 hw2 hc2 hw3 xq fq
          have HSP : Aside0 (SP wr i ge P (some ⟨w3.heap.size + 1, 0, none⟩) 1 (((w3.alloc (.cells #[.int .u8 (98 + (i : Int))] 5)).alloc (.cells #[.string ⟨#[84]⟩, .string (cs (i + 1))] 28)).setCell ⟨ge, 2, none⟩ (.slice (some ⟨w3.heap.size + 1, 0, none⟩) 1 1))) := by
            rw [HPP.out]
            have hlt := GT.lt_of_heapT HX.out
            exact ⟨blk_put (cs := #[.string ⟨#[84]⟩, .string (cs i), .slice none 0 0, .slice none 0 0]) (blk_alloc (blk_alloc HX.out _) _) 2 _ rfl, one_F (u := cu (i + 1)) (blk_far (blk_new2 w3 _ _) (p := ⟨ge, 2, none⟩) (show w3.heap.size + 1 ≠ ge by omega) _) (by have := HB3.out.size; omega), Nat.le_refl _, below_set (below_alloc (below_alloc HB3.out _) _) Hge.out⟩
          generalize ((w3.alloc (.cells #[.int .u8 (98 + (i : Int))] 5)).alloc (.cells #[.string ⟨#[84]⟩, .string (cs (i + 1))] 28)).setCell ⟨ge, 2, none⟩ (.slice (some ⟨w3.heap.size + 1, 0, none⟩) 1 1) = w4 at HSP ⊢
          obtain ⟨Ap, cp, HSP⟩ : ∃ Ap cp, Aside0 (SP wr i ge P Ap cp w4) := ⟨_, _, HSP⟩
          clear HPP HX HB3
        case' neg =>
          have p2 : ((i : Int) + 1 < (n : Int)) = False := eq_false (by omega)
          cases ring
          case' true =>
            have HPP : Aside0 (P = [cu 0]) := ⟨by rw [HPV.out, if_neg h1]; rfl⟩
            have xq : ∀ o, (w3.alloc o).cell? ⟨ge, 2, none⟩ = some (.slice none 0 0) := fun o => (blk_cell (blk_alloc HX.out o) 2).trans rfl
            have fq : ∀ o, (w3.alloc o).frozen? ⟨ge, 2, none⟩ = false := fun o => blk_frozen (blk_alloc HX.out o) 2
            go_upto_region 13 with (fail)
            clear xq fq
            clear p2 h1 x2 f2 hw2 hc2 hw3
            have HSP : Aside0 (SP wr i ge P (some ⟨w3.heap.size, 0, none⟩) 1 ((w3.alloc (.cells #[.string ⟨#[84]⟩, .string ⟨#[97]⟩] 28)).setCell ⟨ge, 2, none⟩ (.slice (some ⟨w3.heap.size, 0, none⟩) 1 1))) := by
              rw [HPP.out]
              have hlt := GT.lt_of_heapT HX.out
              exact ⟨blk_put (cs := #[.string ⟨#[84]⟩, .string (cs i), .slice none 0 0, .slice none 0 0]) (blk_alloc HX.out _) 2 _ rfl, one_F (u := cu 0) (blk_far (blk_new _ _) (p := ⟨ge, 2, none⟩) (show w3.heap.size ≠ ge by omega) _) (by have := HB3.out.size; omega), Nat.le_refl _, below_set (below_alloc HB3.out _) Hge.out⟩
            generalize (w3.alloc (.cells #[.string ⟨#[84]⟩, .string ⟨#[97]⟩] 28)).setCell ⟨ge, 2, none⟩ (.slice (some ⟨w3.heap.size, 0, none⟩) 1 1) = w4 at HSP ⊢
            obtain ⟨Ap, cp, HSP⟩ : ∃ Ap cp, Aside0 (SP wr i ge P Ap cp w4) := ⟨_, _, HSP⟩
            clear HPP HX HB3
          case' false =>
            have HPP : Aside0 (P = []) := ⟨by rw [HPV.out, if_neg h1]; rfl⟩
            go_upto_region 13 with (fail)
            clear p2 h1 x2 f2 hw2 hc2 hw3
            have HSP : Aside0 (SP wr i ge P none 0 w3) := by
              rw [HPP.out]
              exact ⟨HX.out, nil_F, Nat.le_refl _, HB3.out⟩
            obtain ⟨w4, hw4⟩ : ∃ w4, w4 = w3 := ⟨_, rfl⟩
            subst hw4
            obtain ⟨Ap, cp, HSP⟩ : ∃ Ap cp, Aside0 (SP wr i ge P Ap cp w4) := ⟨_, _, HSP⟩
            clear HPP HX HB3
        all_goals
          have x0 : w4.cell? ⟨ge, 0, none⟩ = some (.string ⟨#[84]⟩) := (blk_cell HSP.out.hx 0).trans rfl
          have x1 : w4.cell? ⟨ge, 1, none⟩ = some (.string (cs i)) := (blk_cell HSP.out.hx 1).trans rfl
          have x2 : w4.cell? ⟨ge, 2, none⟩ = some (.slice Ap P.length cp) := (blk_cell HSP.out.hx 2).trans rfl
          have x3 : w4.cell? ⟨ge, 3, none⟩ = some (.slice none 0 0) := (blk_cell HSP.out.hx 3).trans rfl
          have HN4 := Aside0.mk (Kd.N_below HN7.out HSP.out.hb)
          have HB4 := Aside0.mk (below_step HB7.out HSP.out.hb)
          have HOK : Aside0 (∀ q, wr.heap.size ≤ q → w.heap.size ≤ q ∧ some q ≠ (Value.slice A7 L.length c7).ownBlock) := ⟨fun q hq => ⟨Nat.le_trans HB7.out.size hq, Kd.fresh' (Kd.N_lt HN7.out) q hq⟩⟩
          clear HPV
          go_wp2_with (first | (at_builtin; refine Kd.N_append k38 (w0 := w) w.heap.size rfl (.tmp 45) (.tmp 47) 25 38 (.agg #[.string ⟨#[]⟩, .string ⟨#[]⟩, .slice none 0 0, .slice none 0 0]) 80 rfl Try.underlying25 info38 rfl (by decide) (by omega) (.slice A7 L.length c7) L (⟨cu i, P, []⟩ : En) [.string ⟨#[84]⟩, .string (cs i), .slice Ap P.length cp, .slice none 0 0] (fun q => w.heap.size ≤ q) (fun q => wr.heap.size ≤ q) rfl ?aX ?aK HOK.out ?aF ?aO ?aB ?aS ?aL ?_; (case aX => rfl); (case aK => exact k38_mkF _ _ (⟨cu i, P, []⟩ : En) HSP.out.hc HSP.out.hf (Nat.le_refl _) nil_F); (case aF => intro q hq; exact Nat.le_trans HB4.out.size hq); (case aO => exact HN4.out); (case aB => exact HB4.out); (case aS => exact HB4.out.size); (case aL => have := HLL.out; have := HI.out; have := HN.out; omega); intro v9 w9 hN9 hB9 hg9 hat9; have HN9 := Aside0.mk hN9; have HB9 := Aside0.mk hB9; clear hN9 hB9 hg9 hat9 x0 x1 x2 x3))
          go_roundg (n - (i + 1))
          case rel => exact ⟨i + 1, by rw [GP.wr_succ (by have := HI.out; have := HN.out; omega)], HI.out, rfl, ⟨HFIN.out _ _ HN9.out HB9.out⟩⟩
          case measure => have := HI.out; omega
      · obtain rfl : i = n := by have := Hi.out; omega
        have p1 : ((i : Int) < (i : Int)) = False := eq_false (by omega)
        have HOKL : Aside0 (okL L = true) := ⟨by rw [← HLC.out]; exact okL_chain _ _ _ HN.out.2⟩
        have HLK : Aside0 (∀ j (h : j < L.length), L[j].f0 = cu j) := ⟨by
          obtain ⟨e⟩ := HLC
          subst e
          intro j h
          rw [chain_len] at h
          rw [chain_at _ _ _ _ h]; rfl⟩
        clear hin
        go_wp2_with (first | (go_at_call 25; refine (within9_calls t i (by have := HN.out; omega) (by have := HN.out; omega) _).mono ?_; rintro e w5 ⟨k, rfl, hk, hb⟩; have HS5 := Aside0.mk (Kd.N_below HN7.out hb); have HB5 := Aside0.mk (below_step HB7.out hb); have HKI : Aside0 (k < i) := ⟨by omega⟩; clear hk hb))
        have hii : ∃ n, n = i := ⟨_, rfl⟩
        obtain ⟨n, hni⟩ := hii
        subst hni
        clear HN7 HB7 p1
        go_loopg [11] n (fun g v11 wx => ∃ i : Nat, v11 = .int .i64 (i : Int) ∧ i ≤ n ∧ g = n - i ∧ Aside0 (Kd.N k38 38 wx w.heap.size (fun q => w.heap.size ≤ q) (.slice A7 L.length c7) L) ∧ Aside0 (Below w.heap.size w wx))
        case atStart => exact ⟨0, rfl, by omega, rfl, HS5, HB5⟩
        case round =>
          clear HS5 HB5
          obtain ⟨i, rfl, hi, rfl, HS, HB⟩ := hrel
          have HIN := Aside0.mk hi
          have Hc7 := Aside0.mk (Kd.N_reads' HS.out).2.1
          clear hi
          obtain ⟨ad, rfl, hq0, hq1⟩ := ent_at (Kd.N_reads' HS.out).2.2 (i := k) (by have := HLL.out; have := HKI.out; omega)
          clear hq0 hq1
          have HEA : Aside0 (∀ W, Kd.N k38 38 W w.heap.size (fun q => w.heap.size ≤ q) (.slice (some ad) L.length c7) L → ∀ j, j < n → W.cell? (ad.add (j * 4)) = some (.string ⟨#[84]⟩) ∧ W.cell? ⟨(ad.add (j * 4)).block, (ad.add (j * 4)).off + 1, none⟩ = some (.string (cs j))) := ⟨fun W h j hj => by
            have hjl : j < L.length := by have := HLL.out; omega
            obtain ⟨ad', e, g0, g1⟩ := ent_at (Kd.N_reads' h).2.2 hjl
            cases e
            rw [HLK.out j hjl] at g0 g1
            exact ⟨g0, g1⟩⟩
          have pk0 : (0 ≤ (k : Int)) = True := eq_true (by omega)
          have pk1 : ((k : Int) < (L.length : Int)) = True := eq_true (by have := HLL.out; have := HKI.out; omega)
          by_cases hin : i < n
          · have p1 : ((i : Int) < (n : Int)) = True := eq_true (by omega)
            have pi0 : (0 ≤ (i : Int)) = True := eq_true (by omega)
            have pi1 : ((i : Int) < (L.length : Int)) = True := eq_true (by have := HLL.out; omega)
            have HI := Aside0.mk hin
            have hIF : inF L (cu k) (cu i) = (ring || decide (k ≤ i)) := by rw [← HLC.out]; exact GP.in_ch HN.out.2 HKI.out hin
            have HKE : Aside0 (∀ W, Kd.N k38 38 W w.heap.size (fun q => w.heap.size ≤ q) (.slice (some ad) L.length c7) L → W.cell? (ad.add (k * 4)) = some (.string ⟨#[84]⟩) ∧ W.cell? ⟨(ad.add (k * 4)).block, (ad.add (k * 4)).off + 1, none⟩ = some (.string (cs k)) ∧ W.cell? (ad.add (i * 4)) = some (.string ⟨#[84]⟩) ∧ W.cell? ⟨(ad.add (i * 4)).block, (ad.add (i * 4)).off + 1, none⟩ = some (.string (cs i))) := ⟨fun W h => ⟨(HEA.out W h k HKI.out).1, (HEA.out W h k HKI.out).2, (HEA.out W h i HI.out).1, (HEA.out W h i HI.out).2⟩⟩
            have HCI := Aside0.mk (fun W hC => in_calls0 L HOKL.out (cu k) (cu i) (okU_cu k) (okU_cu i) (some ad) c7 W Hc7.out hC)
            rw [hIF] at HCI
            clear hIF hin
            cases ring with
            | true =>
              go_upto_region 18 with (fail)
              replace HS := Aside0.mk (Kd.N_drew HS.out)
              replace HB := Aside0.mk (below_drew1 HB.out)
              refine start_ (n := 19) (S := fun W => W.cell? (ad.add (k * 4)) = some (.string ⟨#[84]⟩) ∧ W.cell? ⟨(ad.add (k * 4)).block, (ad.add (k * 4)).off + 1, none⟩ = some (.string (cs k)) ∧ W.cell? (ad.add (i * 4)) = some (.string ⟨#[84]⟩) ∧ W.cell? ⟨(ad.add (i * 4)).block, (ad.add (i * 4)).off + 1, none⟩ = some (.string (cs i))) (ds := []) #[false, false, false, false, false, false, false, false, false, false, false, false, false, false, false, false, false, false, false] (by kernel_rfl) rfl rfl (HKE.out _ HS.out) (fun hHeld => ?_)
              refine with_tabW rc18_tab rc18_bits (fun HT_ HW_ => ?_)
              generalize wr.drew = wd at HS HB hHeld ⊢
              refine pS_ 0 57 (fa 19 1) HT_ ?_
              refine pS_ 1 58 (fa 19 3) HT_ ?_
              refine pS_ 2 59 (fa 19 7) HT_ ?_
              refine pS_ 3 60 (fa 19 15) HT_ ?_
              refine pS_ 4 61 (fa 19 31) HT_ ?_
              refine pS_ 6 63 (fa 19 95) HT_ ?_
              refine pS_ 7 64 (fa 19 223) HT_ ?_
              refine pS_ 8 65 (fa 19 479) HT_ ?_
              refine pS_ 9 66 (fa 19 991) HT_ ?_
              refine pS_ 12 69 (fa 19 5087) HT_ ?_
              refine tS_ 5 62 (fa 19 5119) HT_ HW_ hHeld ?_
              refine tS_ 10 67 (fa 19 6143) HT_ HW_ hHeld ?_
              refine one_ (i := 11) (N := some 68) #[true, true, true, true, true, true, true, true, true, true, true, true, true, false, false, false, false, false, false] rfl rfl (one_of HT_.out (by kernel_rfl)) (by decide) (fun K hK => ?_)
              refine goes_ Try.func16 (by kernel_rfl) rfl #[.slice (some ad) L.length c7, .agg #[.string ⟨#[84]⟩, .string (cs k)], .agg #[.string ⟨#[84]⟩, .string (cs i)]] (by rfl) rfl rfl gm_ ?_
              refine (HCI.out _ (Kd.N_reads' HS.out).2.2).mono ?_
              rintro e wz ⟨rfl, hb⟩
              refine ⟨_, rfl, ?_⟩
              replace HS := Aside0.mk (Kd.N_below HS.out hb)
              replace HB := Aside0.mk (below_step HB.out hb)
              clear hb
              refine hK.out _ _ (HKE.out _ HS.out) (fun hHeld => ?_)
              clear hK K
              refine norm_ (a' := ?_) ?_ ?_
              rotate_left
              · show Act.put _ (some 68) _ = _
                simp only [Act.put, List.setIfInBounds_toArray, List.set_cons_zero, List.set_cons_succ, i64_w, i32_w]
                rfl
              refine pS_ 13 70 (fa 19 16383) HT_ ?_
              refine pU_ 14 71 (fa 19 32767) HT_ ?_
              refine pU_ 15 72 (fa 19 65535) HT_ ?_
              refine pU_ 16 73 (fa 19 131071) HT_ ?_
              refine pS_ 17 74 (fa 19 262143) HT_ ?_
              refine pS_ 18 75 (fa 19 524287) HT_ ?_
              refine done_ (done_of HT_.out (by kernel_rfl)) ?_
              try go_wp2
              go_roundg (n - (i + 1))
              case rel => exact ⟨i + 1, by rw [GP.wr_succ (by have := HI.out; have := HN.out; omega)], HI.out, rfl, HS, HB⟩
              case measure => have := HI.out; omega
            | false =>
              rw [Bool.false_or] at HCI
              by_cases hki : k ≤ i
              · have pki : ((k : Int) ≤ (i : Int)) = True := eq_true (by omega)
                rw [decide_eq_true hki] at HCI
                clear hki
                go_upto_region 18 with (fail)
                replace HS := Aside0.mk (Kd.N_drew HS.out)
                replace HB := Aside0.mk (below_drew1 HB.out)
                refine start_ (n := 19) (S := fun W => W.cell? (ad.add (k * 4)) = some (.string ⟨#[84]⟩) ∧ W.cell? ⟨(ad.add (k * 4)).block, (ad.add (k * 4)).off + 1, none⟩ = some (.string (cs k)) ∧ W.cell? (ad.add (i * 4)) = some (.string ⟨#[84]⟩) ∧ W.cell? ⟨(ad.add (i * 4)).block, (ad.add (i * 4)).off + 1, none⟩ = some (.string (cs i))) (ds := []) #[false, false, false, false, false, false, false, false, false, false, false, false, false, false, false, false, false, false, false] (by kernel_rfl) rfl rfl (HKE.out _ HS.out) (fun hHeld => ?_)
                refine with_tabW rc18_tab rc18_bits (fun HT_ HW_ => ?_)
                generalize wr.drew = wd at HS HB hHeld ⊢
                refine pS_ 0 57 (fa 19 1) HT_ ?_
                refine pS_ 1 58 (fa 19 3) HT_ ?_
                refine pS_ 2 59 (fa 19 7) HT_ ?_
                refine pS_ 3 60 (fa 19 15) HT_ ?_
                refine pS_ 4 61 (fa 19 31) HT_ ?_
                refine pS_ 6 63 (fa 19 95) HT_ ?_
                refine pS_ 7 64 (fa 19 223) HT_ ?_
                refine pS_ 8 65 (fa 19 479) HT_ ?_
                refine pS_ 9 66 (fa 19 991) HT_ ?_
                refine pS_ 12 69 (fa 19 5087) HT_ ?_
                refine tS_ 5 62 (fa 19 5119) HT_ HW_ hHeld ?_
                refine tS_ 10 67 (fa 19 6143) HT_ HW_ hHeld ?_
                refine one_ (i := 11) (N := some 68) #[true, true, true, true, true, true, true, true, true, true, true, true, true, false, false, false, false, false, false] rfl rfl (one_of HT_.out (by kernel_rfl)) (by decide) (fun K hK => ?_)
                refine goes_ Try.func16 (by kernel_rfl) rfl #[.slice (some ad) L.length c7, .agg #[.string ⟨#[84]⟩, .string (cs k)], .agg #[.string ⟨#[84]⟩, .string (cs i)]] (by rfl) rfl rfl gm_ ?_
                refine (HCI.out _ (Kd.N_reads' HS.out).2.2).mono ?_
                rintro e wz ⟨rfl, hb⟩
                refine ⟨_, rfl, ?_⟩
                replace HS := Aside0.mk (Kd.N_below HS.out hb)
                replace HB := Aside0.mk (below_step HB.out hb)
                clear hb
                refine hK.out _ _ (HKE.out _ HS.out) (fun hHeld => ?_)
                clear hK K
                refine norm_ (a' := ?_) ?_ ?_
                rotate_left
                · show Act.put _ (some 68) _ = _
                  simp only [Act.put, List.setIfInBounds_toArray, List.set_cons_zero, List.set_cons_succ, i64_w, i32_w]
                  rfl
                refine pS_ 13 70 (fa 19 16383) HT_ ?_
                refine pS_ 14 71 (fa 19 32767) HT_ ?_
                refine pS_ 15 72 (fa 19 65535) HT_ ?_
                refine pS_ 16 73 (fa 19 131071) HT_ ?_
                refine pS_ 17 74 (fa 19 262143) HT_ ?_
                refine pS_ 18 75 (fa 19 524287) HT_ ?_
                refine done_ (done_of HT_.out (by kernel_rfl)) ?_
                try go_wp2
                go_roundg (n - (i + 1))
                case rel => exact ⟨i + 1, by rw [GP.wr_succ (by have := HI.out; have := HN.out; omega)], HI.out, rfl, HS, HB⟩
                case measure => have := HI.out; omega
              · have pki : ((k : Int) ≤ (i : Int)) = False := eq_false (by omega)
                rw [decide_eq_false hki] at HCI
                clear hki
                go_upto_region 18 with (fail)
                replace HS := Aside0.mk (Kd.N_drew HS.out)
                replace HB := Aside0.mk (below_drew1 HB.out)
                refine start_ (n := 19) (S := fun W => W.cell? (ad.add (k * 4)) = some (.string ⟨#[84]⟩) ∧ W.cell? ⟨(ad.add (k * 4)).block, (ad.add (k * 4)).off + 1, none⟩ = some (.string (cs k)) ∧ W.cell? (ad.add (i * 4)) = some (.string ⟨#[84]⟩) ∧ W.cell? ⟨(ad.add (i * 4)).block, (ad.add (i * 4)).off + 1, none⟩ = some (.string (cs i))) (ds := []) #[false, false, false, false, false, false, false, false, false, false, false, false, false, false, false, false, false, false, false] (by kernel_rfl) rfl rfl (HKE.out _ HS.out) (fun hHeld => ?_)
                refine with_tabW rc18_tab rc18_bits (fun HT_ HW_ => ?_)
                generalize wr.drew = wd at HS HB hHeld ⊢
                refine pS_ 0 57 (fa 19 1) HT_ ?_
                refine pS_ 1 58 (fa 19 3) HT_ ?_
                refine pS_ 2 59 (fa 19 7) HT_ ?_
                refine pS_ 3 60 (fa 19 15) HT_ ?_
                refine pS_ 4 61 (fa 19 31) HT_ ?_
                refine pS_ 6 63 (fa 19 95) HT_ ?_
                refine pS_ 7 64 (fa 19 223) HT_ ?_
                refine pS_ 8 65 (fa 19 479) HT_ ?_
                refine pS_ 9 66 (fa 19 991) HT_ ?_
                refine pS_ 12 69 (fa 19 5087) HT_ ?_
                refine tS_ 5 62 (fa 19 5119) HT_ HW_ hHeld ?_
                refine tS_ 10 67 (fa 19 6143) HT_ HW_ hHeld ?_
                refine one_ (i := 11) (N := some 68) #[true, true, true, true, true, true, true, true, true, true, true, true, true, false, false, false, false, false, false] rfl rfl (one_of HT_.out (by kernel_rfl)) (by decide) (fun K hK => ?_)
                refine goes_ Try.func16 (by kernel_rfl) rfl #[.slice (some ad) L.length c7, .agg #[.string ⟨#[84]⟩, .string (cs k)], .agg #[.string ⟨#[84]⟩, .string (cs i)]] (by rfl) rfl rfl gm_ ?_
                refine (HCI.out _ (Kd.N_reads' HS.out).2.2).mono ?_
                rintro e wz ⟨rfl, hb⟩
                refine ⟨_, rfl, ?_⟩
                replace HS := Aside0.mk (Kd.N_below HS.out hb)
                replace HB := Aside0.mk (below_step HB.out hb)
                clear hb
                refine hK.out _ _ (HKE.out _ HS.out) (fun hHeld => ?_)
                clear hK K
                refine norm_ (a' := ?_) ?_ ?_
                rotate_left
                · show Act.put _ (some 68) _ = _
                  simp only [Act.put, List.setIfInBounds_toArray, List.set_cons_zero, List.set_cons_succ, i64_w, i32_w]
                  rfl
                refine pS_ 13 70 (fa 19 16383) HT_ ?_
                refine pS_ 14 71 (fa 19 32767) HT_ ?_
                refine pS_ 15 72 (fa 19 65535) HT_ ?_
                refine pS_ 16 73 (fa 19 131071) HT_ ?_
                refine pS_ 17 74 (fa 19 262143) HT_ ?_
                refine pS_ 18 75 (fa 19 524287) HT_ ?_
                refine done_ (done_of HT_.out (by kernel_rfl)) ?_
                try go_wp2
                go_roundg (n - (i + 1))
                case rel => exact ⟨i + 1, by rw [GP.wr_succ (by have := HI.out; have := HN.out; omega)], HI.out, rfl, HS, HB⟩
                case measure => have := HI.out; omega
          · have p1 : ((i : Int) < (n : Int)) = False := eq_false (by omega)
            clear hin
            obtain ⟨n1, hn1⟩ : ∃ n1, n1 = n - 1 := ⟨_, rfl⟩
            obtain ⟨j1, hj1⟩ : ∃ j1, j1 = n - 1 - k := ⟨_, rfl⟩
            have HN1 : Aside0 (n1 = n - 1) := ⟨hn1⟩
            have hw1 : IntKind.i64.wrap ((n : Int) - 1) = (n1 : Int) := (i64_w _).trans ((GP.wr_id (by omega) (by have := HN.out; omega)).trans (by have := HN.out; omega))
            have hw2 : IntKind.i64.wrap ((n1 : Int) - (k : Int)) = (j1 : Int) := (i64_w _).trans ((GP.wr_id (by have := HN.out; have := HKI.out; omega) (by have := HN.out; have := HKI.out; omega)).trans (by have := HN.out; have := HKI.out; omega))
            have hAL : (aboveF L (cu k)).length = if ring = true then n else j1 := by rw [hj1, ← HLC.out]; exact GP.above_ch HN.out.2 HKI.out
            have hBL : (GP.belowF L (cu k)).length = if ring = true then n1 else k := by rw [hn1, ← HLC.out]; exact GP.below_ch HN.out.2 HKI.out
            obtain ⟨rb, hrb, hrbe⟩ := GP.below_tot' HOKL.out (by have := HLL.out; have := HN.out; omega) (okU_cu k)
            obtain ⟨kk, hkk⟩ := hrb.rounds
            have HKK := Aside0.mk hkk
            rw [← hrbe] at hBL
            have HAC := Aside0.mk (fun W hC => above_calls0 L HOKL.out (cu k) (some ad) c7 W Hc7.out hC)
            have HBC := Aside0.mk (fun W hC => above_Below.calls kk (some ad) c7 L (cu k).f0 (cu k).f1 rb W hC Hc7.out hkk)
            have HCI1 : Aside0 (ring = false → circleF L (cu n1) [cu k] = true ∧ circleF L (cu 0) [GP.cother] = false) := ⟨fun h => by subst h; rw [← HLC.out, hn1]; exact ⟨GP.circle_last HN.out.2 HKI.out, GP.circle_other HN.out.2⟩⟩
            clear hn1 hj1 hrb hrbe hkk
            cases ring with
            | true =>
              rw [if_pos rfl] at hAL hBL
              have e1 : (((aboveF L (cu k)).length : Int) == (n : Int)) = true := by rw [hAL]; simp
              have e2 : ((rb.length : Int) == (n1 : Int)) = true := by rw [hBL]; simp
              obtain ⟨q0, q1⟩ := HEA.out _ HS.out k HKI.out
              clear hAL hBL
              go_wp2_with (first | (go_at_call 19; refine (HAC.out _ (Kd.N_reads' HS.out).2.2).mono ?_; rintro e wz1 ⟨v, rfl, hv, hb⟩; obtain ⟨Bv, dv, rfl⟩ := Kd.V_slice hv; have HS1 := Aside0.mk (Kd.N_below HS.out hb); have HB1 := Aside0.mk (below_step HB.out hb); clear q0 q1; obtain ⟨q0, q1⟩ := HEA.out _ HS1.out k HKI.out; clear hv hb) | (go_at_call 21; refine (HBC.out _ (Kd.N_reads' HS1.out).2.2).mono ?_; rintro e wz2 ⟨v, rfl, hv, hb⟩; obtain ⟨Bv2, dv2, rfl⟩ := Kd.R_slice hv; have HB2 := Aside0.mk (below_step HB1.out hb); clear hv hb q0 q1))
              go_ret
              exact ⟨rfl, HB2.out⟩
            | false =>
              rw [if_neg (by decide)] at hAL hBL
              have e1 : (((aboveF L (cu k)).length : Int) == (j1 : Int)) = true := by rw [hAL]; simp
              have e2 : ((rb.length : Int) == (k : Int)) = true := by rw [hBL]; simp
              have HC1 := Aside0.mk (HCI1.out rfl)
              have pn0 : (0 ≤ (n1 : Int)) = True := eq_true (by omega)
              have pn1 : ((n1 : Int) < (L.length : Int)) = True := eq_true (by have := HLL.out; have := HN1.out; have := HN.out; omega)
              have pz1 : (0 < (L.length : Int)) = True := eq_true (by have := HLL.out; have := HN.out; omega)
              have pz2 : (0 < L.length) = True := eq_true (by have := HLL.out; have := HN.out; omega)
              have HKE : Aside0 (∀ W, Kd.N k38 38 W w.heap.size (fun q => w.heap.size ≤ q) (.slice (some ad) L.length c7) L → W.cell? (ad.add (k * 4)) = some (.string ⟨#[84]⟩) ∧ W.cell? ⟨(ad.add (k * 4)).block, (ad.add (k * 4)).off + 1, none⟩ = some (.string (cs k)) ∧ W.cell? (ad.add (n1 * 4)) = some (.string ⟨#[84]⟩) ∧ W.cell? ⟨(ad.add (n1 * 4)).block, (ad.add (n1 * 4)).off + 1, none⟩ = some (.string (cs n1)) ∧ W.cell? ad = some (.string ⟨#[84]⟩) ∧ W.cell? ⟨ad.block, ad.off + 1, none⟩ = some (.string (cs 0))) := ⟨fun W h => by
                have h1 := HEA.out W h k HKI.out
                have h2 := HEA.out W h n1 (by have := HN1.out; have := HN.out; omega)
                have h3 := HEA.out W h 0 (by have := HN.out; omega)
                rw [Nat.zero_mul, show ad.add 0 = ad by simp [Addr.add]] at h3
                exact ⟨h1.1, h1.2, h2.1, h2.2, h3.1, h3.2⟩⟩
              clear hAL hBL
              go_upto_region 22 with (fail)
              replace HS := Aside0.mk (Kd.N_drew HS.out)
              replace HB := Aside0.mk (below_drew1 HB.out)
              refine start_ (n := 53) (S := fun W => W.cell? (ad.add (k * 4)) = some (.string ⟨#[84]⟩) ∧ W.cell? ⟨(ad.add (k * 4)).block, (ad.add (k * 4)).off + 1, none⟩ = some (.string (cs k)) ∧ W.cell? (ad.add (n1 * 4)) = some (.string ⟨#[84]⟩) ∧ W.cell? ⟨(ad.add (n1 * 4)).block, (ad.add (n1 * 4)).off + 1, none⟩ = some (.string (cs n1)) ∧ W.cell? ad = some (.string ⟨#[84]⟩) ∧ W.cell? ⟨ad.block, ad.off + 1, none⟩ = some (.string (cs 0))) (ds := []) #[false, false, false, false, false, false, false, false, false, false, false, false, false, false, false, false, false, false, false, false, false, false, false, false, false, false, false, false, false, false, false, false, false, false, false, false, false, false, false, false, false, false, false, false, false, false, false, false, false, false, false, false, false] (by kernel_rfl) rfl rfl (HKE.out _ HS.out) (fun hHeld => ?_)
              refine with_tabW rc22_tab rc22_bits (fun HT_ HW_ => ?_)
              generalize wr.drew = wd at HS HB hHeld ⊢
              refine pS_ 0 100 (fa 53 1) HT_ ?_
              refine pS_ 1 101 (fa 53 3) HT_ ?_
              refine pS_ 2 102 (fa 53 7) HT_ ?_
              refine pS_ 3 103 (fa 53 15) HT_ ?_
              refine pS_ 4 104 (fa 53 31) HT_ ?_
              refine pS_ 8 108 (fa 53 287) HT_ ?_
              refine pS_ 9 109 (fa 53 799) HT_ ?_
              refine pS_ 10 110 (fa 53 1823) HT_ ?_
              refine pS_ 11 111 (fa 53 3871) HT_ ?_
              refine tS_ 5 105 (fa 53 3903) HT_ HW_ hHeld ?_
              refine one_ (i := 6) (N := some 106) #[true, true, true, true, true, true, true, false, true, true, true, true, false, false, false, false, false, false, false, false, false, false, false, false, false, false, false, false, false, false, false, false, false, false, false, false, false, false, false, false, false, false, false, false, false, false, false, false, false, false, false, false, false] rfl rfl (one_of HT_.out (by kernel_rfl)) (by decide) (fun K hK => ?_)
              refine goes_ Try.func19 (by kernel_rfl) rfl #[.slice (some ad) L.length c7, .agg #[.string ⟨#[84]⟩, .string (cs k)]] (by rfl) rfl rfl gm_ ?_
              refine (HAC.out _ (Kd.N_reads' HS.out).2.2).mono ?_
              rintro e wz1 ⟨v, rfl, hv, hb⟩
              obtain ⟨Bv, dv, rfl⟩ := Kd.V_slice hv
              refine ⟨_, rfl, ?_⟩
              replace HS := Aside0.mk (Kd.N_below HS.out hb)
              replace HB := Aside0.mk (below_step HB.out hb)
              clear hb hv
              refine hK.out _ _ (HKE.out _ HS.out) (fun hHeld => ?_)
              clear hK K
              refine norm_ (a' := ?_) ?_ ?_
              rotate_left
              · show Act.put _ (some 106) _ = _
                simp only [Act.put, List.setIfInBounds_toArray, List.set_cons_zero, List.set_cons_succ, i64_w, i32_w]
                rfl
              refine pS_ 7 107 (fa 53 4095) HT_ ?_
              refine pS_ 12 112 (fa 53 8191) HT_ ?_
              refine pS_ 13 113 (fa 53 16383) HT_ ?_
              refine pS_ 14 114 (fa 53 32767) HT_ ?_
              refine pS_ 15 115 (fa 53 65535) HT_ ?_
              refine pS_ 16 116 (fa 53 131071) HT_ ?_
              refine pS_ 17 117 (fa 53 262143) HT_ ?_
              refine pS_ 18 118 (fa 53 524287) HT_ ?_
              refine pS_ 22 122 (fa 53 4718591) HT_ ?_
              refine tS_ 19 119 (fa 53 5242879) HT_ HW_ hHeld ?_
              refine one_ (i := 20) (N := some 120) #[true, true, true, true, true, true, true, true, true, true, true, true, true, true, true, true, true, true, true, true, true, false, true, false, false, false, false, false, false, false, false, false, false, false, false, false, false, false, false, false, false, false, false, false, false, false, false, false, false, false, false, false, false] rfl rfl (one_of HT_.out (by kernel_rfl)) (by decide) (fun K hK => ?_)
              refine goes_ Try.func21 (by kernel_rfl) rfl #[.slice (some ad) L.length c7, .agg #[.string ⟨#[84]⟩, .string (cs k)]] (by rfl) rfl rfl gm_ ?_
              refine (HBC.out _ (Kd.N_reads' HS.out).2.2).mono ?_
              rintro e wz2 ⟨v, rfl, hv, hb⟩
              obtain ⟨Bv2, dv2, rfl⟩ := Kd.R_slice hv
              refine ⟨_, rfl, ?_⟩
              replace HS := Aside0.mk (Kd.N_below HS.out hb)
              replace HB := Aside0.mk (below_step HB.out hb)
              clear hb hv
              refine hK.out _ _ (HKE.out _ HS.out) (fun hHeld => ?_)
              clear hK K
              refine norm_ (a' := ?_) ?_ ?_
              rotate_left
              · show Act.put _ (some 120) _ = _
                simp only [Act.put, List.setIfInBounds_toArray, List.set_cons_zero, List.set_cons_succ, i64_w, i32_w]
                rfl
              refine pS_ 21 121 (fa 53 8388607) HT_ ?_
              refine pS_ 23 123 (fa 53 16777215) HT_ ?_
              refine pS_ 24 124 (fa 53 33554431) HT_ ?_
              refine pS_ 25 125 (fa 53 67108863) HT_ ?_
              refine pS_ 26 126 (fa 53 134217727) HT_ ?_
              refine pS_ 27 127 (fa 53 268435455) HT_ ?_
              refine pS_ 28 128 (fa 53 536870911) HT_ ?_
              refine pS_ 29 129 (fa 53 1073741823) HT_ ?_
              refine pS_ 30 130 (fa 53 2147483647) HT_ ?_
              refine pS_ 31 131 (fa 53 4294967295) HT_ ?_
              refine pS_ 33 133 (fa 53 12884901887) HT_ ?_
              refine pS_ 34 134 (fa 53 30064771071) HT_ ?_
              refine pS_ 35 135 (fa 53 64424509439) HT_ ?_
              refine pS_ 36 136 (fa 53 133143986175) HT_ ?_
              refine tS_ 32 132 (fa 53 137438953471) HT_ HW_ hHeld ?_
              refine tS_ 37 137 (fa 53 274877906943) HT_ HW_ hHeld ?_
              refine one_ (i := 38) (N := some 138) #[true, true, true, true, true, true, true, true, true, true, true, true, true, true, true, true, true, true, true, true, true, true, true, true, true, true, true, true, true, true, true, true, true, true, true, true, true, true, true, false, false, false, false, false, false, false, false, false, false, false, false, false, false] rfl rfl (one_of HT_.out (by kernel_rfl)) (by decide) (fun K hK => ?_)
              refine value_ (w1 := ?_) (v := ?_) (by rfl) rfl ?_ ?_
              rotate_left 2
              · go_simp
                constructor
                · rfl
                · rfl
              refine hK.out _ _ (HKE.out _ (Kd.N_alloc HS.out _)) (fun hHeld => ?_)
              clear hK K
              refine norm_ (a' := ?_) ?_ ?_
              rotate_left
              · show Act.put _ (some 138) _ = _
                simp only [Act.put, List.setIfInBounds_toArray, List.set_cons_zero, List.set_cons_succ, i64_w, i32_w]
                rfl
              refine one_ (i := 39) (N := some 139) #[true, true, true, true, true, true, true, true, true, true, true, true, true, true, true, true, true, true, true, true, true, true, true, true, true, true, true, true, true, true, true, true, true, true, true, true, true, true, true, true, false, false, false, false, false, false, false, false, false, false, false, false, false] rfl rfl (one_of HT_.out (by kernel_rfl)) (by decide) (fun K hK => ?_)
              refine goes_ Try.func23 (by kernel_rfl) rfl #[.slice (some ad) L.length c7, .agg #[.string ⟨#[84]⟩, .string (cs n1)], .slice (some ⟨wz2.heap.size, 0, none⟩) 1 1] (by rfl) rfl rfl gm_ ?_
              refine (circle_calls L HOKL.out (cu n1) (okU_cu n1) [cu k] (fun x hx => by obtain rfl := List.mem_singleton.1 hx; exact okU_cu k) (by simp) (some ad) c7 (some ⟨wz2.heap.size, 0, none⟩) 1 _ Hc7.out (Kd.N_reads' (Kd.N_alloc HS.out _)).2.2 (Nat.le_refl 1) (one_C (u := cu k) (blk_new wz2 _))).mono ?_
              rintro e wz3 ⟨rfl, hb⟩
              rw [HC1.out.1]
              refine ⟨_, rfl, ?_⟩
              replace HS := Aside0.mk (Kd.N_below (Kd.N_alloc HS.out _) hb)
              replace HB := Aside0.mk (below_step (below_alloc HB.out _) hb)
              clear hb
              refine hK.out _ _ (HKE.out _ HS.out) (fun hHeld => ?_)
              clear hK K
              refine norm_ (a' := ?_) ?_ ?_
              rotate_left
              · show Act.put _ (some 139) _ = _
                simp only [Act.put, List.setIfInBounds_toArray, List.set_cons_zero, List.set_cons_succ, i64_w, i32_w]
                rfl
              refine pS_ 40 140 (fa 53 2199023255551) HT_ ?_
              refine pS_ 41 141 (fa 53 4398046511103) HT_ ?_
              refine pS_ 42 142 (fa 53 8796093022207) HT_ ?_
              refine pS_ 43 143 (fa 53 17592186044415) HT_ ?_
              refine pS_ 44 144 (fa 53 35184372088831) HT_ ?_
              refine pS_ 45 145 (fa 53 70368744177663) HT_ ?_
              refine pS_ 47 147 (fa 53 211106232532991) HT_ ?_
              refine tS_ 46 146 (fa 53 281474976710655) HT_ HW_ hHeld ?_
              refine one_ (i := 48) (N := some 148) #[true, true, true, true, true, true, true, true, true, true, true, true, true, true, true, true, true, true, true, true, true, true, true, true, true, true, true, true, true, true, true, true, true, true, true, true, true, true, true, true, true, true, true, true, true, true, true, true, true, false, false, false, false] rfl rfl (one_of HT_.out (by kernel_rfl)) (by decide) (fun K hK => ?_)
              refine value_ (w1 := ?_) (v := ?_) (by rfl) rfl ?_ ?_
              rotate_left 2
              · go_simp
                constructor
                · rfl
                · rfl
              refine hK.out _ _ (HKE.out _ (Kd.N_alloc HS.out _)) (fun hHeld => ?_)
              clear hK K
              refine norm_ (a' := ?_) ?_ ?_
              rotate_left
              · show Act.put _ (some 148) _ = _
                simp only [Act.put, List.setIfInBounds_toArray, List.set_cons_zero, List.set_cons_succ, i64_w, i32_w]
                rfl
              refine one_ (i := 49) (N := some 149) #[true, true, true, true, true, true, true, true, true, true, true, true, true, true, true, true, true, true, true, true, true, true, true, true, true, true, true, true, true, true, true, true, true, true, true, true, true, true, true, true, true, true, true, true, true, true, true, true, true, true, false, false, false] rfl rfl (one_of HT_.out (by kernel_rfl)) (by decide) (fun K hK => ?_)
              refine goes_ Try.func23 (by kernel_rfl) rfl #[.slice (some ad) L.length c7, .agg #[.string ⟨#[84]⟩, .string (cs 0)], .slice (some ⟨wz3.heap.size, 0, none⟩) 1 1] (by rfl) rfl rfl gm_ ?_
              refine (circle_calls L HOKL.out (cu 0) (okU_cu 0) [GP.cother] (fun x hx => by obtain rfl := List.mem_singleton.1 hx; exact GP.okU_other) (by simp) (some ad) c7 (some ⟨wz3.heap.size, 0, none⟩) 1 _ Hc7.out (Kd.N_reads' (Kd.N_alloc HS.out _)).2.2 (Nat.le_refl 1) (one_C (u := GP.cother) (blk_new wz3 _))).mono ?_
              rintro e wz4 ⟨rfl, hb⟩
              rw [HC1.out.2]
              refine ⟨_, rfl, ?_⟩
              replace HS := Aside0.mk (Kd.N_below (Kd.N_alloc HS.out _) hb)
              replace HB := Aside0.mk (below_step (below_alloc HB.out _) hb)
              clear hb
              refine hK.out _ _ (HKE.out _ HS.out) (fun hHeld => ?_)
              clear hK K
              refine norm_ (a' := ?_) ?_ ?_
              rotate_left
              · show Act.put _ (some 149) _ = _
                simp only [Act.put, List.setIfInBounds_toArray, List.set_cons_zero, List.set_cons_succ, i64_w, i32_w]
                rfl
              refine pS_ 50 150 (fa 53 2251799813685247) HT_ ?_
              refine pS_ 51 151 (fa 53 4503599627370495) HT_ ?_
              refine pS_ 52 6 (fa 53 9007199254740991) HT_ ?_
              refine done_ (done_of HT_.out (by kernel_rfl)) ?_
              try go_wp2
              go_ret
              exact ⟨rfl, HB.out⟩
end Go.Proofs.Ytelibndkkokadaa.GA
