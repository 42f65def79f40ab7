import Derived.Test.YtelibndkkokadaaGreatGB0
import Derived.Test.YtelibndkkokadaaGreatEa
import Derived.Deep.DeepAppendWide
import Derived.Shelf.Spec.SlicesInsertGrow
import Derived.Deep.Upon
import Derived.Deep.RegionHeld3
import Derived.Deep.QuietTactic
import Derived.BigQuiet
import Derived.Laws.ResultCell
import Derived.Laws.Rows
namespace Go.Proofs.YtelibndkkokadaaGreat.GB
open Go.RowKit Go.Proofs.YtelibndkkokadaaGreatW.PrintWords Go.Proofs.YtelibndkkokadaaGreatW.PrintLast Go.Proofs.YtelibndkkokadaaGreat.HandV Go.Proofs.YtelibndkkokadaaGreatW.PrintMore
attribute [local go_sem] max2_int min2_int max_two min_two max_three min_three max_four min_four   -- for this text's walks alone
set_option linter.unusedVariables false
set_option linter.unusedSimpArgs false
-- IMPORT .Ea
-- IMPORT Derived.Deep.DeepAppendWide
-- IMPORT Derived.Shelf.Spec.SlicesInsertGrow
-- IMPORT Derived.Deep.Upon
set_option maxRecDepth 100000 in
set_option maxHeartbeats 8000000 in
/-- slices.Insert of one value at the end: the row grows by it, with room or without. -/
theorem insert_end (v : Value) (n : Nat) (xs news : List Value) (base : Nat) (vb vc : Nat) (w : World) (hn : n ≤ 1000) (hown : w.ownsRow base 39 7 v n xs) (hbase : base ≤ w.heap.size)
    (hl : news.length = 7) (hnews : ∀ j u, news[j]? = some u → w.cell? (Addr.add ⟨vb, 0, none⟩ j) = some u) (h1 : ∀ u ∈ news, u.oneCell' = true) :
    Calls Tryz.prog 66 #[v, .int .i64 (n : Int), .slice (some ⟨vb, 0, none⟩) 1 vc] w fun e w' => ∃ v', e = .returned v' ∧ w'.ownsRow base 39 7 v' (n + 1) (xs ++ news) ∧ w.grownBy w' v.ownBlock := by
  obtain ⟨i0, hi0, hz0, hzs, hzb⟩ := info_parts info39
  have hz1 : ¬ ((1 : Int) = 0) := by omega
  have he : ((n : Int) == (n : Int)) = true := beq_self_eq_true _
  have hb : ((n + 1) + (n + 1) / 4 + 192) * 96 ≤ 281474976710656 := by omega
  have hm : n + 1 ≤ maxLen := by unfold maxLen; omega
  have hown2 := hown.2
  rcases hown2 with ⟨rfl, rfl⟩ | ⟨g, cap, cur, rfl, hbg, hh, hnc, hcm, hcs, htk⟩
  · go_enter Tryz.func66, Tryz.ntmps66
    go_wp2_with (at_builtin; (first | (refine wpList_append_own_wide w rfl (.tmp 23) (.tmp 24) 37 rfl base 39 i0 _ 7 96 Tryz.underlying37 hi0 hz0 hzs hzb rfl (by decide) (.slice none 0 0) 0 xs rfl hown ⟨vb, 0, none⟩ 1 vc news rfl hl hnews h1 hm hb hbase ?_) | (refine wp_append_own_wide w (.tmp 23) (.tmp 24) 37 rfl base 39 i0 _ 7 96 Tryz.underlying37 hi0 hz0 hzs hzb rfl (by decide) (.slice none 0 0) 0 xs rfl hown ⟨vb, 0, none⟩ 1 vc news rfl hl hnews h1 hm hb hbase ?_)); intro v' w' h2 h3 _)
    go_ret
    exact ⟨_, rfl, h2, h3⟩
  · have hnn : (0 ≤ (n : Int)) = True := eq_true (by omega)
    clear hh hcs htk
    go_enter Tryz.func66, Tryz.ntmps66
    go_wp2_with (at_builtin; (first | (refine wpList_append_own_wide w rfl (.tmp 23) (.tmp 24) 37 rfl base 39 i0 _ 7 96 Tryz.underlying37 hi0 hz0 hzs hzb rfl (by decide) (.slice (some ⟨g, 0, none⟩) n cap) n xs rfl hown ⟨vb, 0, none⟩ 1 vc news rfl hl hnews h1 hm hb hbase ?_) | (refine wp_append_own_wide w (.tmp 23) (.tmp 24) 37 rfl base 39 i0 _ 7 96 Tryz.underlying37 hi0 hz0 hzs hzb rfl (by decide) (.slice (some ⟨g, 0, none⟩) n cap) n xs rfl hown ⟨vb, 0, none⟩ 1 vc news rfl hl hnews h1 hm hb hbase ?_)); intro v' w' h2 h3 _)
    all_goals (go_ret; exact ⟨_, rfl, by assumption, by assumption⟩)
theorem setCell_heap (w : World) (b o : Nat) (v : Value) (cur : List Value) (e : TypeId) (fz : Nat × Nat) (h : w.heap[b]? = some (.cells cur.toArray e fz)) :
    (w.setCell ⟨b, o, none⟩ v).heap[b]? = some (.cells (cur.set o v).toArray e fz) := by
  have hlt : b < w.heap.size := (Array.getElem?_eq_some_iff.1 h).1
  have hv : w.heap[b] = .cells cur.toArray e fz := (Array.getElem?_eq_some_iff.1 h).2
  unfold World.setCell
  rw [Array.getElem?_eq_getElem (by simpa using hlt), Array.getElem_modify]
  simp [hv]
theorem setCells_heap (b : Nat) (e : TypeId) (fz : Nat × Nat) : ∀ (vs : List Value) (o : Nat) (w : World) (cur : List Value), w.heap[b]? = some (.cells cur.toArray e fz) → o + vs.length ≤ cur.length →
    (w.setCells b o vs).heap[b]? = some (.cells (cur.take o ++ vs ++ cur.drop (o + vs.length)).toArray e fz)
  | [], o, w, cur, h, _ => by simpa [World.setCells] using h
  | v :: r, o, w, cur, h, hl => by
    have hl2 : o + (r.length + 1) ≤ cur.length := by simpa using hl
    have h1 := setCells_heap b e fz r (o + 1) _ _ (setCell_heap w b o v cur e fz h) (by rw [List.length_set]; omega)
    rw [World.setCells, h1]
    have e1 : (cur.set o v).take (o + 1) = cur.take o ++ [v] := by
      rw [List.take_succ_eq_append_getElem (by rw [List.length_set]; omega), List.take_set_of_le (Nat.le_refl o)]
      simp
    have e2 : (cur.set o v).drop (o + 1 + r.length) = cur.drop (o + (v :: r).length) := by
      rw [List.drop_set_of_lt (by omega), List.length_cons, Nat.add_assoc, Nat.add_comm 1]
    rw [e1, e2]
    simp
/-- What a row is when a piece is put in its midst, in two copies. -/
theorem ins_row (L xs news : List Value) (n7 i7 : Nat) (h : L.take n7 = xs) (hi : i7 ≤ n7) (hn : news.length = 7) (hL : n7 + 7 ≤ L.length) :
    ((((L.take (i7 + 7) ++ xs.drop i7 ++ L.drop (i7 + 7 + (n7 - i7))).take i7) ++ news ++ ((L.take (i7 + 7) ++ xs.drop i7 ++ L.drop (i7 + 7 + (n7 - i7))).drop (i7 + 7)))).take (n7 + 7) = xs.take i7 ++ news ++ xs.drop i7 := by
  have hx : xs.length = n7 := by rw [← h, List.length_take]; omega
  have e1 : (L.take (i7 + 7) ++ xs.drop i7 ++ L.drop (i7 + 7 + (n7 - i7))).take i7 = xs.take i7 := by
    rw [List.append_assoc, List.take_append_of_le_length (by rw [List.length_take]; omega), List.take_take, ← h, List.take_take]
    congr 1
    omega
  have e2 : (L.take (i7 + 7) ++ xs.drop i7 ++ L.drop (i7 + 7 + (n7 - i7))).drop (i7 + 7) = xs.drop i7 ++ L.drop (i7 + 7 + (n7 - i7)) := by
    rw [List.append_assoc]
    exact List.drop_left' (by rw [List.length_take]; omega)
  rw [e1, e2, ← List.append_assoc]
  exact List.take_left' (by rw [List.length_append, List.length_append, List.length_take, List.length_drop]; omega)
section
variable {P : Program}
theorem run_copy_wide (w : World) (dT sT ty elem : TypeId) (size b o dLen dCap : Nat) (a : Addr) (sLen sCap : Nat) (cs : List Value)
    (hu : P.underlying dT = some (.slice elem)) (hs : (P.info? elem).map (·.size) = some size) (hn : cs.length = Nat.min sLen dLen * size)
    (hsrc : ∀ j v, cs[j]? = some v → w.cell? (a.add j) = some v) (hc : ∀ j, j < cs.length → (w.cell? ⟨b, o + j, none⟩).isSome = true) (hf : ∀ j, j < cs.length → w.frozen? ⟨b, o + j, none⟩ = false) (h1 : ∀ v ∈ cs, v.oneCell' = true) :
    (Builtin.copy_ #[dT, sT] ty #[.slice (some ⟨b, o, none⟩) dLen dCap, .slice (some a) sLen sCap]).run P w = .ok (goInt (Nat.min sLen dLen)) (w.setCells b o cs) := by
  have hl := run_loadCells_list (P := P) w a cs hsrc
  have hst := run_storeCells_cells (P := P) b o cs 0 w (by simpa using hc) (by simpa using hf) h1
  cases hq : P.info? elem with
  | none => simp [hq] at hs
  | some i =>
    have hi : i.size = size := by simpa [hq] using hs
    rw [hn] at hl
    simp [Builtin.copy_, run_underlying hu, Builtin.lenOf, Builtin.firstCells, sizeOf, typeInfo, hq, hi, hl, hst]
end
theorem ins_row2 (R xs news : List Value) (n7 i7 : Nat) (hx : xs.length = n7) (h : R.take i7 = xs.take i7) (hi : i7 ≤ n7) (hn : news.length = 7) :
    (((R.take i7 ++ news ++ R.drop (i7 + 7)).take (i7 + 7)) ++ xs.drop i7 ++ ((R.take i7 ++ news ++ R.drop (i7 + 7)).drop (i7 + 7 + (n7 - i7)))).take (n7 + 7) = xs.take i7 ++ news ++ xs.drop i7 := by
  have e1 : (R.take i7 ++ news ++ R.drop (i7 + 7)).take (i7 + 7) = xs.take i7 ++ news := by
    rw [h]
    exact List.take_left' (by rw [List.length_append, List.length_take]; omega)
  rw [e1]
  exact List.take_left' (by rw [List.length_append, List.length_append, List.length_take, List.length_drop]; omega)
set_option maxRecDepth 100000 in
set_option maxHeartbeats 8000000 in
/-- The walk through slices.Insert in the midst without room. -/
theorem insert_full_walk (g n cap i G N : Nat) (vb vc : Nat) (w W1 : World) (hi : i < n) (hn : n ≤ 1000) (hnc : n ≤ cap) (hfull : cap < n + 1) (hGn : n + 1 ≤ G) (xs news : List Value)
    (hrz : ∀ ty, (Builtin.append_ #[37, 3] ty #[.slice (some ⟨g, 0, none⟩) i cap, .int .i64 ((n + 1 - i : Nat) : Int)]).run Tryz.prog w = .ok (.slice (some ⟨N, 0, none⟩) (n + 1) G) W1)
    (hcpA : ∀ (W : World), (∀ x, W.cell? x = W1.cell? x) → (∀ x, W.frozen? x = W1.frozen? x) → ∀ ty dc, (Builtin.copy_ #[37, 37] ty #[.slice (some ⟨N, i * 7, none⟩) (n + 1 - i) dc, .slice (some ⟨vb, 0, none⟩) 1 vc]).run Tryz.prog W = .ok (goInt 1) (W.setCells N (i * 7) news))
    (hcpB : ∀ (W : World), (∀ x, W.cell? x = (W1.setCells N (i * 7) news).cell? x) → (∀ x, W.frozen? x = (W1.setCells N (i * 7) news).frozen? x) → ∀ ty dc sc, (Builtin.copy_ #[37, 37] ty #[.slice (some ⟨N, (i + 1) * 7, none⟩) (n - i) dc, .slice (some ⟨g, i * 7, none⟩) (n - i) sc]).run Tryz.prog W = .ok (goInt ((n - i : Nat) : Int)) (W.setCells N ((i + 1) * 7) xs)) :
    Calls Tryz.prog 66 #[.slice (some ⟨g, 0, none⟩) n cap, .int .i64 (i : Int), .slice (some ⟨vb, 0, none⟩) 1 vc] w fun e w' => e = .returned (.slice (some ⟨N, 0, none⟩) (n + 1) G) ∧ w' = ((W1.setCells N (i * 7) news).drew).setCells N ((i + 1) * 7) xs := by
  have hz1 : ¬ ((1 : Int) = 0) := by omega
  have mixed : Tryz.prog.follows Departure.mixedOrders = true := by kernel_rfl
  have he : ((i : Int) == (n : Int)) = false := beq_eq_false_iff_ne.mpr (by omega)
  have hgt : decide ((cap : Int) < (n : Int) + 1) = true := decide_eq_true (by omega)
  have hgt2 : decide (cap < n + 1) = true := decide_eq_true (by omega)
  have h0 : (0 ≤ (i : Int)) = True := eq_true (by omega)
  have h2 : ((i : Int) ≤ (n : Int)) = True := eq_true (by omega)
  have h3 : ((i : Int) ≤ (cap : Int)) = True := eq_true (by omega)
  have h4 : i ≤ n := by omega
  have h5 : i ≤ cap := by omega
  have hkk : (n : Int) + 1 - (i : Int) = ((n + 1 - i : Nat) : Int) := by omega
  have hGi : ¬ (G = i) := by omega
  have hGim : ¬ (G = i + 1) := by omega
  have hci : ¬ (cap = i) := by omega
  have hw1 : IntKind.i64.wrap ((i : Int) + 1) = (i : Int) + 1 := by rw [IntKind.wrap_i64]; omega
  have hb1 : (0 : Int) ≤ (i : Int) + 1 := by omega
  have htn : ((i : Int) + 1).toNat = i + 1 := by omega
  have hb3 : (i : Int) ≤ (n : Int) := by omega
  go_enter Tryz.func66, Tryz.ntmps66
  go_wp2_with (first
    | (at_builtin; refine Lib.wpList_append_run _ rfl _ _ _ _ rfl _ _ rfl rfl _ _ (hrz _) ?_)
    | (at_builtin; refine wpList_copy_runI _ rfl _ _ 37 37 rfl _ _ rfl rfl (hcpA _ (fun _ => rfl) (fun _ => rfl) _ _) ?_)
    | (at_builtin; refine wpList_copy_runI _ rfl _ _ 37 37 rfl _ _ rfl rfl (hcpB _ (fun _ => rfl) (fun _ => rfl) _ _ _) ?_))
  have hB := hcpB (W1.setCells N (i * 7) news).drew (fun _ => rfl) (fun _ => rfl) 3 (G - (i + 1)) (cap - i)
  go_region_law_o (fail)
  go_wp2
  go_ret
  exact ⟨rfl, rfl⟩
set_option maxRecDepth 100000 in
set_option maxHeartbeats 8000000 in
/-- The walk through slices.Insert in the midst with room. -/
theorem insert_room_walk (g n cap i : Nat) (vb vc : Nat) (w : World) (hi : i < n) (hn : n ≤ 1000) (hroom : n + 1 ≤ cap) (xs news : List Value)
    (hov : ∀ lb cb, (callFunc 80 #[.slice (some ⟨vb, 0, none⟩) 1 vc, .slice (some ⟨g, (i + 1) * 7, none⟩) lb cb]).run Tryz.prog w = .ok (.value (.bool false)) w)
    (hcpA : ∀ (W : World), (∀ x, W.cell? x = w.cell? x) → (∀ x, W.frozen? x = w.frozen? x) → ∀ ty dc sc, (Builtin.copy_ #[37, 37] ty #[.slice (some ⟨g, (i + 1) * 7, none⟩) (n - i) dc, .slice (some ⟨g, i * 7, none⟩) (n + 1 - i) sc]).run Tryz.prog W = .ok (goInt ((n - i : Nat) : Int)) (W.setCells g ((i + 1) * 7) xs))
    (hcpB : ∀ (W : World), (∀ x, W.cell? x = (w.drew.setCells g ((i + 1) * 7) xs).cell? x) → (∀ x, W.frozen? x = (w.drew.setCells g ((i + 1) * 7) xs).frozen? x) → ∀ ty dc, (Builtin.copy_ #[37, 37] ty #[.slice (some ⟨g, i * 7, none⟩) (n + 1 - i) dc, .slice (some ⟨vb, 0, none⟩) 1 vc]).run Tryz.prog W = .ok (goInt 1) (W.setCells g (i * 7) news)) :
    Calls Tryz.prog 66 #[.slice (some ⟨g, 0, none⟩) n cap, .int .i64 (i : Int), .slice (some ⟨vb, 0, none⟩) 1 vc] w fun e w' => e = .returned (.slice (some ⟨g, 0, none⟩) (n + 1) cap) ∧ w' = (w.drew.setCells g ((i + 1) * 7) xs).setCells g (i * 7) news := by
  have hz1 : ¬ ((1 : Int) = 0) := by omega
  have mixed : Tryz.prog.follows Departure.mixedOrders = true := by kernel_rfl
  have he : ((i : Int) == (n : Int)) = false := beq_eq_false_iff_ne.mpr (by omega)
  have hgt : decide ((cap : Int) < (n : Int) + 1) = false := decide_eq_false (by omega)
  have hgt2 : decide (cap < n + 1) = false := decide_eq_false (by omega)
  have h0 : (0 ≤ (i : Int)) = True := eq_true (by omega)
  have h2 : ((i : Int) ≤ (n : Int)) = True := eq_true (by omega)
  have h3 : ((i : Int) ≤ (cap : Int)) = True := eq_true (by omega)
  have h4 : i ≤ n := by omega
  have h5 : i ≤ cap := by omega
  have h6 : n + 1 ≤ cap := by omega
  have hkk : (n : Int) + 1 - (i : Int) = ((n + 1 - i : Nat) : Int) := by omega
  have hci : ¬ (cap = i) := by omega
  have hci1 : ¬ (cap = i + 1) := by omega
  have hw1 : IntKind.i64.wrap ((i : Int) + 1) = (i : Int) + 1 := by rw [IntKind.wrap_i64]; omega
  have hb1 : (0 : Int) ≤ (i : Int) + 1 := by omega
  have htn : ((i : Int) + 1).toNat = i + 1 := by omega
  have hb3 : (i : Int) ≤ (n : Int) := by omega
  have hb4 : (i : Int) ≤ (n : Int) + 1 := by omega
  have hA := hcpA w.drew (fun _ => rfl) (fun _ => rfl) 3 (cap - (i + 1)) (cap - i)
  go_enter Tryz.func66, Tryz.ntmps66
  go_wp2_with (simp only [hov])
  go_region_law_o (fail)
  have hB := hcpB (w.drew.setCells g ((i + 1) * 7) xs) (fun _ => rfl) (fun _ => rfl) 3 (cap - i)
  go_wp2
  go_ret
  exact ⟨rfl, rfl⟩
set_option maxRecDepth 100000 in
set_option maxHeartbeats 8000000 in
theorem insert_mid_full (g n cap i : Nat) (xs news : List Value) (base : Nat) (vb vc : Nat) (w : World) (hn : n ≤ 1000) (hi : i < n) (hfull : cap < n + 1) (hown : w.ownsRow base 39 7 (.slice (some ⟨g, 0, none⟩) n cap) n xs) (hbase : base ≤ w.heap.size)
    (hl : news.length = 7) (hnews : ∀ j u, news[j]? = some u → w.cell? (Addr.add ⟨vb, 0, none⟩ j) = some u) (h1 : ∀ u ∈ news, u.oneCell' = true) (h1x : ∀ u ∈ xs, u.oneCell' = true) :
    Calls Tryz.prog 66 #[.slice (some ⟨g, 0, none⟩) n cap, .int .i64 (i : Int), .slice (some ⟨vb, 0, none⟩) 1 vc] w fun e w' => ∃ v', e = .returned v' ∧ w'.ownsRow base 39 7 v' (n + 1) (xs.take (i * 7) ++ news ++ xs.drop (i * 7)) ∧ w.grownBy w' (some g) := by
  obtain ⟨i0, hi0, hz0, hzs, hzb⟩ := info_parts info39
  have hxl : xs.length = n * 7 := hown.1
  have hcs := hown.cells (g := g) rfl
  have hnc : n ≤ cap := by
    rcases hown.2 with ⟨h, _⟩ | ⟨g, cap, cur, h, hbg, hh, hnc, hcm, hcs, htk⟩
    · cases h
    · injection h with _ _ h3
      omega
  have hbw : g < w.heap.size := (hown.lt g rfl).2
  have hvw : vb < w.heap.size := by
    have := hnews 0 _ (List.getElem?_eq_getElem (by omega))
    simpa [Addr.add] using World.block_lt_of_cell? _ _ this
  clear hown
  have hsz : (Tryz.prog.info? 39).map (·.size) = some 7 := by rw [hi0]; simp [hzs]
  have hik : i + (n + 1 - i) = n + 1 := by omega
  have hold : (Builtin.firstCells i0.size i (.slice (some ⟨g, 0, none⟩) i cap)).run Tryz.prog w.drew = .ok (xs.take (i * 7)).toArray w.drew := by
    rw [hzs]
    exact run_firstCells_some w.drew 7 i ⟨g, 0, none⟩ i cap (xs.take (i * 7)) (by rw [List.length_take]; omega) (fun j v hj => by
      rw [List.getElem?_take] at hj
      split at hj
      · exact hcs j v hj
      · cases hj)
  have hrz := fun ty => Lib.run_append_grow_zeros w 37 3 ty 39 i0 _ .i64 .i64 Tryz.underlying37 Tryz.underlying3 hi0 hz0 (some ⟨g, 0, none⟩) i cap (xs.take (i * 7)) hold (n + 1 - i) (by omega) (by rw [hzs]; omega) (by omega) (by omega) (by rw [hzb]; omega) (by rw [hzb, hik]; exact growslice_fits (by omega) (by omega))
  rw [hik] at hrz
  have hGn : n + 1 ≤ grownCap w (n + 1) cap 39 := grownCap_ge w _ _ _
  have hGm : grownCap w (n + 1) cap 39 ≤ maxLen := grownCap_le_maxLen w (n + 1) cap 39 (by unfold maxLen; omega)
  generalize grownCap w (n + 1) cap 39 = G at hrz hGn hGm
  obtain ⟨ROW, hROW⟩ : ∃ ROW : Array Value, ROW = (xs.take (i * 7)).toArray ++ Builtin.zeroCells (Value.agg #[(.int .i64 0), (.bool false), (.int .i64 0), (.string ⟨#[]⟩), (.string ⟨#[]⟩), (.string ⟨#[]⟩), (.slice none 0 0)]).cells (n + 1 - i) ++ Builtin.zeroCells (Value.agg #[(.int .i64 0), (.bool false), (.int .i64 0), (.string ⟨#[]⟩), (.string ⟨#[]⟩), (.string ⟨#[]⟩), (.slice none 0 0)]).cells (G - (n + 1)) := ⟨_, rfl⟩
  rw [← hROW] at hrz
  have hRl : ROW.size = G * 7 := by
    rw [hROW, Array.size_append, Array.size_append, size_zeroCells, size_zeroCells, List.size_toArray, List.length_take, Nat.min_eq_left (by omega)]
    change i * 7 + (n + 1 - i) * 7 + (G - (n + 1)) * 7 = G * 7
    omega
  have hRt : ROW.toList.take (i * 7) = xs.take (i * 7) := by
    rw [hROW, Array.toList_append, Array.toList_append, List.append_assoc]
    exact List.take_left' (by rw [List.length_take]; omega)
  clear hROW hik hold
  have hRtl : ROW.toList.length = G * 7 := by rw [Array.length_toList]; exact hRl
  have hH : (w.drew.alloc (.cells ROW 39)).heap[w.heap.size]? = some (.cells ROW.toList.toArray 39 (0, 0)) := heap_alloc_new w.drew _
  have hHo : ∀ k, k < w.heap.size → (w.drew.alloc (.cells ROW 39)).heap[k]? = w.heap[k]? := fun k hk => by first | exact heap_alloc_old w.drew _ hk | exact heap_alloc_old w.drew _ k hk
  have hHs : w.heap.size < (w.drew.alloc (.cells ROW 39)).heap.size := by simp
  have hOs : (w.drew.alloc (.cells ROW 39)).os = w.os := rfl
  have hTa : (w.drew.alloc (.cells ROW 39)).tape = w.tape := rfl
  have hOu : (w.drew.alloc (.cells ROW 39)).output = w.output := rfl
  generalize w.drew.alloc (.cells ROW 39) = W1 at hrz hH hHo hHs hOs hTa hOu
  have hN : ∀ j, j < (n + 1) * 7 → (W1.cell? ⟨w.heap.size, j, none⟩).isSome = true := fun j hj => by
    unfold World.cell?
    rw [hH]
    simp
    omega
  have hNf : ∀ j, W1.frozen? ⟨w.heap.size, j, none⟩ = false := fun j => by
    unfold World.frozen?
    rw [hH]
    simp
  have hOb : ∀ k j v, k < w.heap.size → w.cell? ⟨k, j, none⟩ = some v → W1.cell? ⟨k, j, none⟩ = some v := fun k j v hk h => (World.cell?_of_block (a := ⟨k, j, none⟩) (hHo k hk)).trans h
  have hm1 : Nat.min 1 (n + 1 - i) = 1 := by simp only [Nat.min_def]; split <;> omega
  have hm2 : Nat.min (n - i) (n - i) = n - i := by simp only [Nat.min_def]; split <;> omega
  have hcpA : ∀ (W : World), (∀ x, W.cell? x = W1.cell? x) → (∀ x, W.frozen? x = W1.frozen? x) → ∀ ty dc, (Builtin.copy_ #[37, 37] ty #[.slice (some ⟨w.heap.size, i * 7, none⟩) (n + 1 - i) dc, .slice (some ⟨vb, 0, none⟩) 1 vc]).run Tryz.prog W = .ok (goInt 1) (W.setCells w.heap.size (i * 7) news) := fun W hWc hWf ty dc => by
    have := run_copy_wide (P := Tryz.prog) W 37 37 ty 39 7 w.heap.size (i * 7) (n + 1 - i) dc ⟨vb, 0, none⟩ 1 vc news Tryz.underlying37 hsz (by rw [hm1]; omega)
      (fun j v hj => by rw [Addr.add_lit, hWc]; exact hOb _ _ v hvw (by have := hnews j v hj; rwa [Addr.add_lit] at this))
      (fun j hj => by rw [hWc]; exact hN _ (by omega)) (fun j hj => by rw [hWf]; exact hNf _) h1
    rwa [hm1] at this
  have hdl : (xs.drop (i * 7)).length = n * 7 - i * 7 := by rw [List.length_drop, hxl]
  have hbN : g ≠ w.heap.size := by omega
  have hcpB : ∀ (W : World), (∀ x, W.cell? x = (W1.setCells w.heap.size (i * 7) news).cell? x) → (∀ x, W.frozen? x = (W1.setCells w.heap.size (i * 7) news).frozen? x) → ∀ ty dc sc, (Builtin.copy_ #[37, 37] ty #[.slice (some ⟨w.heap.size, (i + 1) * 7, none⟩) (n - i) dc, .slice (some ⟨g, i * 7, none⟩) (n - i) sc]).run Tryz.prog W = .ok (goInt ((n - i : Nat) : Int)) (W.setCells w.heap.size ((i + 1) * 7) (xs.drop (i * 7))) := fun W hWc hWf ty dc sc => by
    have := run_copy_wide (P := Tryz.prog) W 37 37 ty 39 7 w.heap.size ((i + 1) * 7) (n - i) dc ⟨g, i * 7, none⟩ (n - i) sc (xs.drop (i * 7)) Tryz.underlying37 hsz (by rw [hdl, hm2]; omega)
      (fun j v hj => by
        rw [Addr.add_lit, hWc, World.cell?_setCells_out _ _ _ _ _ (fun h _ => absurd h hbN)]
        exact hOb _ _ v hbw (by have := hcs (i * 7 + j) v (by rwa [List.getElem?_drop] at hj); rwa [Addr.add_lit, Nat.zero_add] at this))
      (fun j hj => by rw [hWc]; exact isSome_setCells _ _ _ _ (fun t ht => hN _ (by omega)) _ (hN _ (by omega)))
      (fun j hj => by rw [hWf, World.frozen?_setCells]; exact hNf _) (fun v hv => h1x v (List.mem_of_mem_drop hv))
    rw [hm2] at this
    exact this
  refine (insert_full_walk g n cap i G w.heap.size vb vc w W1 hi hn hnc hfull hGn (xs.drop (i * 7)) news hrz hcpA hcpB).mono ?_
  rintro e w' ⟨rfl, rfl⟩
  have k1 := setCells_heap w.heap.size 39 (0, 0) news (i * 7) W1 _ hH (by rw [hRtl, hl]; omega)
  have k2 := setCells_heap w.heap.size 39 (0, 0) (xs.drop (i * 7)) ((i + 1) * 7) (W1.setCells w.heap.size (i * 7) news).drew _ k1 (by simp only [List.length_append, List.length_take, List.length_drop, hRtl, hl, hxl]; omega)
  rw [hl] at k1 k2
  have hrow := ins_row2 ROW.toList xs news (n * 7) (i * 7) hxl hRt (by omega) hl
  rw [show i * 7 + 7 = (i + 1) * 7 by omega] at hrow
  rw [hdl, show i * 7 + 7 = (i + 1) * 7 by omega] at k2
  refine ⟨_, rfl, ⟨by rw [List.length_append, List.length_append, List.length_take, hdl]; omega, .inr ⟨w.heap.size, G, _, rfl, hbase, k2, hGn, hGm, ?_, ?_⟩⟩, ⟨?_, ?_, ?_, ?_, ?_⟩⟩
  · simp only [List.size_toArray, List.length_append, List.length_take, List.length_drop, hRtl, hl, hxl]
    omega
  · rw [show (n + 1) * 7 = n * 7 + 7 by omega]
    exact hrow
  · rw [World.os_setCells]
    exact (World.os_setCells _ _ _ _).trans hOs
  · have ht : ∀ (b : Nat) (vs : List Value) (o : Nat) (w : World), (w.setCells b o vs).tape = w.tape := by
      intro b vs
      induction vs with
      | nil => intro o w; rfl
      | cons v r ih => intro o w; rw [World.setCells, ih]; rfl
    rw [ht]
    exact (ht _ _ _ _).trans hTa
  · rw [World.output_setCells]
    exact (World.output_setCells _ _ _ _).trans hOu
  · have hs : ∀ (b : Nat) (vs : List Value) (o : Nat) (w : World), (w.setCells b o vs).heap.size = w.heap.size := by
      intro b vs
      induction vs with
      | nil => intro o w; rfl
      | cons v r ih => intro o w; rw [World.setCells, ih]; simp [World.setCell]
    rw [hs]
    show _ ≤ (W1.setCells _ _ _).heap.size
    rw [hs]
    omega
  · intro k hk _
    have hs : ∀ (b : Nat) (vs : List Value) (o : Nat) (w : World), (w.setCells b o vs).heap.size = w.heap.size := by
      intro b vs
      induction vs with
      | nil => intro o w; rfl
      | cons v r ih => intro o w; rw [World.setCells, ih]; simp [World.setCell]
    rw [World.heap_setCells_other _ _ _ _ (by show k < (W1.setCells _ _ _).heap.size; rw [hs]; omega) (by omega)]
    exact (World.heap_setCells_other _ _ _ _ (by omega) (by omega)).trans (hHo k hk)
set_option maxRecDepth 100000 in
set_option maxHeartbeats 8000000 in
theorem insert_mid_room (g n cap i : Nat) (xs news : List Value) (base : Nat) (vb vc : Nat) (vcur : Array Value) (w : World) (hn : n ≤ 1000) (hi : i < n) (hroom : n + 1 ≤ cap) (hown : w.ownsRow base 39 7 (.slice (some ⟨g, 0, none⟩) n cap) n xs) (hne : vb ≠ g)
    (hvc : w.heap[vb]? = some (.cells vcur 39 (0, 0)))
    (hl : news.length = 7) (hnews : ∀ j u, news[j]? = some u → w.cell? (Addr.add ⟨vb, 0, none⟩ j) = some u) (h1 : ∀ u ∈ news, u.oneCell' = true) (h1x : ∀ u ∈ xs, u.oneCell' = true) :
    Calls Tryz.prog 66 #[.slice (some ⟨g, 0, none⟩) n cap, .int .i64 (i : Int), .slice (some ⟨vb, 0, none⟩) 1 vc] w fun e w' => ∃ v', e = .returned v' ∧ w'.ownsRow base 39 7 v' (n + 1) (xs.take (i * 7) ++ news ++ xs.drop (i * 7)) ∧ w.grownBy w' (some g) := by
  obtain ⟨i0, hi0, hz0, hzs, hzb⟩ := info_parts info39
  have hxl : xs.length = n * 7 := hown.1
  have hcs := hown.cells (g := g) rfl
  obtain ⟨cur, hbg, hH, hcm, hcl, htk⟩ : ∃ cur : Array Value, base ≤ g ∧ w.heap[g]? = some (.cells cur 39 (0, 0)) ∧ cap ≤ maxLen ∧ cur.size = cap * 7 ∧ cur.toList.take (n * 7) = xs := by
    rcases hown.2 with ⟨h, _⟩ | ⟨g, cap, cur, h, hbg, hh, hnc, hcm, hcs, htk⟩
    · cases h
    · injection h with h1 _ h3
      injection h1 with h1
      injection h1 with h1
      subst h1 h3
      exact ⟨cur, hbg, hh, hcm, hcs, htk⟩
  clear hown
  have hsz : (Tryz.prog.info? 39).map (·.size) = some 7 := by rw [hi0]; simp [hzs]
  have hN : ∀ j, j < (n + 1) * 7 → (w.cell? ⟨g, j, none⟩).isSome = true := fun j hj => by
    unfold World.cell?
    rw [hH]
    simp
    omega
  have hNf : ∀ j, w.frozen? ⟨g, j, none⟩ = false := fun j => by
    unfold World.frozen?
    rw [hH]
    simp
  have hVf : ∀ j, w.frozen? ⟨vb, j, none⟩ = false := fun j => by
    unfold World.frozen?
    rw [hvc]
    simp
  have hov : ∀ lb cb, (callFunc 80 #[.slice (some ⟨vb, 0, none⟩) 1 vc, .slice (some ⟨g, (i + 1) * 7, none⟩) lb cb]).run Tryz.prog w = .ok (.value (.bool false)) w := fun lb cb => by
    rw [run_callFunc_extern Tryz.func80 (by kernel_rfl) (by kernel_rfl) (by kernel_rfl) (e := Extern.SlicesOverlaps.overlaps #[37, 37] #[4]) (by kernel_rfl),
      Lib.run_overlaps_apart w 37 4 39 Tryz.underlying37 7 (fun w => by first | exact run_sizeOf hi0 hzs | simp [sizeOf, typeInfo, hi0, hzs]) ⟨vb, 0, none⟩ ⟨g, (i + 1) * 7, none⟩ 1 vc lb cb hne 39 39 vcur.size (cap * 7) (by unfold World.shape?; rw [hvc]) (by unfold World.shape?; rw [hH]; simp [hcl]) (by omega) (hVf 0) (hVf _)]
    rfl
  have hm1 : Nat.min 1 (n + 1 - i) = 1 := by simp only [Nat.min_def]; split <;> omega
  have hm2 : Nat.min (n + 1 - i) (n - i) = n - i := by simp only [Nat.min_def]; split <;> omega
  have hdl : (xs.drop (i * 7)).length = n * 7 - i * 7 := by rw [List.length_drop, hxl]
  have hcpA : ∀ (W : World), (∀ x, W.cell? x = w.cell? x) → (∀ x, W.frozen? x = w.frozen? x) → ∀ ty dc sc, (Builtin.copy_ #[37, 37] ty #[.slice (some ⟨g, (i + 1) * 7, none⟩) (n - i) dc, .slice (some ⟨g, i * 7, none⟩) (n + 1 - i) sc]).run Tryz.prog W = .ok (goInt ((n - i : Nat) : Int)) (W.setCells g ((i + 1) * 7) (xs.drop (i * 7))) := fun W hWc hWf ty dc sc => by
    have := run_copy_wide (P := Tryz.prog) W 37 37 ty 39 7 g ((i + 1) * 7) (n - i) dc ⟨g, i * 7, none⟩ (n + 1 - i) sc (xs.drop (i * 7)) Tryz.underlying37 hsz (by rw [hdl, hm2]; omega)
      (fun j v hj => by
        rw [Addr.add_lit, hWc]
        have := hcs (i * 7 + j) v (by rwa [List.getElem?_drop] at hj)
        rwa [Addr.add_lit, Nat.zero_add] at this)
      (fun j hj => by rw [hWc]; exact hN _ (by omega))
      (fun j hj => by rw [hWf]; exact hNf _) (fun v hv => h1x v (List.mem_of_mem_drop hv))
    rw [hm2] at this
    exact this
  have hcpB : ∀ (W : World), (∀ x, W.cell? x = (w.drew.setCells g ((i + 1) * 7) (xs.drop (i * 7))).cell? x) → (∀ x, W.frozen? x = (w.drew.setCells g ((i + 1) * 7) (xs.drop (i * 7))).frozen? x) → ∀ ty dc, (Builtin.copy_ #[37, 37] ty #[.slice (some ⟨g, i * 7, none⟩) (n + 1 - i) dc, .slice (some ⟨vb, 0, none⟩) 1 vc]).run Tryz.prog W = .ok (goInt 1) (W.setCells g (i * 7) news) := fun W hWc hWf ty dc => by
    have := run_copy_wide (P := Tryz.prog) W 37 37 ty 39 7 g (i * 7) (n + 1 - i) dc ⟨vb, 0, none⟩ 1 vc news Tryz.underlying37 hsz (by rw [hm1]; omega)
      (fun j v hj => by
        rw [Addr.add_lit, hWc, World.cell?_setCells_out _ _ _ _ _ (fun h _ => absurd h hne)]
        have := hnews j v hj
        rw [Addr.add_lit] at this
        exact this)
      (fun j hj => by
        rw [hWc]
        exact isSome_setCells g (xs.drop (i * 7)) ((i + 1) * 7) w.drew (fun t ht => hN ((i + 1) * 7 + t) (by rw [hdl] at ht; omega)) (i * 7 + j) (hN (i * 7 + j) (by omega)))
      (fun j hj => by rw [hWf, World.frozen?_setCells]; exact hNf _) h1
    rwa [hm1] at this
  refine (insert_room_walk g n cap i vb vc w hi hn hroom (xs.drop (i * 7)) news hov hcpA hcpB).mono ?_
  rintro e w' ⟨rfl, rfl⟩
  have hlL : cur.toList.length = cap * 7 := by rw [Array.length_toList]; exact hcl
  have hH' : w.drew.heap[g]? = some (.cells cur.toList.toArray 39 (0, 0)) := hH
  have k1 := setCells_heap g 39 (0, 0) (xs.drop (i * 7)) ((i + 1) * 7) w.drew _ hH' (by rw [hdl, hlL]; omega)
  have k2 := setCells_heap g 39 (0, 0) news (i * 7) _ _ k1 (by simp only [List.length_append, List.length_take, List.length_drop, hlL, hl, hxl]; omega)
  rw [hl] at k2
  have hrow := ins_row cur.toList xs news (n * 7) (i * 7) htk (by omega) hl (by omega)
  rw [show i * 7 + 7 = (i + 1) * 7 by omega] at hrow
  rw [hdl, show i * 7 + 7 = (i + 1) * 7 by omega] at k2
  have hs : ∀ (b : Nat) (vs : List Value) (o : Nat) (w : World), (w.setCells b o vs).heap.size = w.heap.size := by
    intro b vs
    induction vs with
    | nil => intro o w; rfl
    | cons v r ih => intro o w; rw [World.setCells, ih]; simp [World.setCell]
  have ht : ∀ (b : Nat) (vs : List Value) (o : Nat) (w : World), (w.setCells b o vs).tape = w.tape := by
    intro b vs
    induction vs with
    | nil => intro o w; rfl
    | cons v r ih => intro o w; rw [World.setCells, ih]; rfl
  refine ⟨_, rfl, ⟨by rw [List.length_append, List.length_append, List.length_take, hdl]; omega, .inr ⟨g, cap, _, rfl, hbg, k2, hroom, hcm, ?_, ?_⟩⟩, ⟨?_, ?_, ?_, ?_, ?_⟩⟩
  · simp only [List.size_toArray, List.length_append, List.length_take, List.length_drop, hlL, hl, hxl]
    omega
  · rw [show (n + 1) * 7 = n * 7 + 7 by omega]
    exact hrow
  · rw [World.os_setCells, World.os_setCells]
    rfl
  · rw [ht, ht]
    rfl
  · rw [World.output_setCells, World.output_setCells]
    rfl
  · rw [hs, hs]
    exact Nat.le_refl _
  · intro k hk hkg
    have hkg2 : k ≠ g := fun h => hkg (by rw [h])
    rw [World.heap_setCells_other _ _ _ _ (by rw [hs]; exact hk) hkg2, World.heap_setCells_other _ _ _ _ (by exact hk) hkg2]
    rfl
/-- slices.Insert of one value, anywhere: the row grows by it, with room or without. -/
theorem insert_any (v : Value) (n i : Nat) (xs news : List Value) (base : Nat) (vb vc : Nat) (vcur : Array Value) (w : World) (hn : n ≤ 1000) (hi : i ≤ n) (hown : w.ownsRow base 39 7 v n xs) (hbase : base ≤ w.heap.size) (hne : v.ownBlock ≠ some vb)
    (hvc : w.heap[vb]? = some (.cells vcur 39 (0, 0)))
    (hl : news.length = 7) (hnews : ∀ j u, news[j]? = some u → w.cell? (Addr.add ⟨vb, 0, none⟩ j) = some u) (h1 : ∀ u ∈ news, u.oneCell' = true) (h1x : ∀ u ∈ xs, u.oneCell' = true) :
    Calls Tryz.prog 66 #[v, .int .i64 (i : Int), .slice (some ⟨vb, 0, none⟩) 1 vc] w fun e w' => ∃ v', e = .returned v' ∧ w'.ownsRow base 39 7 v' (n + 1) (xs.take (i * 7) ++ news ++ xs.drop (i * 7)) ∧ w.grownBy w' v.ownBlock := by
  by_cases h : i = n
  · subst h
    have hx : xs.take (i * 7) ++ news ++ xs.drop (i * 7) = xs ++ news := by
      rw [List.take_of_length_le (by rw [hown.1]; exact Nat.le_refl _), List.drop_eq_nil_of_le (by rw [hown.1]; exact Nat.le_refl _), List.append_nil]
    rw [hx]
    exact insert_end v i xs news base vb vc w hn hown hbase hl hnews h1
  · have hown2 := hown.2
    rcases hown2 with ⟨rfl, rfl⟩ | ⟨g, cap, cur, rfl, hbg, hh, hnc, hcm, hcs, htk⟩
    · omega
    · have hne2 : vb ≠ g := fun e => hne (by rw [e]; rfl)
      by_cases hroom : n + 1 ≤ cap
      · exact insert_mid_room g n cap i xs news base vb vc vcur w hn (by omega) hroom hown hne2 hvc hl hnews h1 h1x
      · exact insert_mid_full g n cap i xs news base vb vc w hn (by omega) (by omega) hown hbase hl hnews h1 h1x
end Go.Proofs.YtelibndkkokadaaGreat.GB
namespace Go.Proofs.YtelibndkkokadaaGreat.GB
open Go.RowKit Go.Proofs.YtelibndkkokadaaGreatW.PrintWords Go.Proofs.YtelibndkkokadaaGreatW.PrintLast Go.Proofs.YtelibndkkokadaaGreat.HandV Go.Proofs.YtelibndkkokadaaGreatW.PrintMore
attribute [local go_sem] max2_int min2_int max_two min_two max_three min_three max_four min_four   -- for this text's walks alone
set_option linter.unusedVariables false
set_option linter.unusedSimpArgs false
-- IMPORT .Vb
-- IMPORT .Ea
-- IMPORT Derived.Deep.RegionHeld3
-- IMPORT Derived.Deep.QuietTactic
-- IMPORT Derived.BigQuiet
-- IMPORT Derived.Laws.ResultCell
-- IMPORT Derived.Laws.Rows
-- IMPORT Derived.Deep.Upon
set_option maxRecDepth 100000 in
set_option maxHeartbeats 4000000 in
theorem search34 (n : Nat) (hn : n ≤ 1000) (p : Nat → Bool) (bo bv : Nat) (w : World)
    (hf : ∀ W, Below w.heap.size w W → ∀ h : Nat, h < n → Calls Tryz.prog 64 #[.int .i64 (h : Int), .pointer (some ⟨bo, 0, none⟩), .pointer (some ⟨bv, 0, none⟩)] W fun e W' => e = .returned (.bool (p h)) ∧ Below W.heap.size W W') :
    Calls Tryz.prog 63 #[.int .i64 (n : Int), .func (.func 64) #[] #[.pointer (some ⟨bo, 0, none⟩), .pointer (some ⟨bv, 0, none⟩)]] w fun e w' => e = .returned (.int .i64 ((searchF p n 0 n : Nat) : Int)) ∧ Below w.heap.size w w' := by
  have HB := Aside0.mk (Below.refl w.heap.size w)
  obtain ⟨r, hr⟩ : ∃ r, searchF p n 0 n = r := ⟨_, rfl⟩
  rw [hr]
  go_enter Tryz.func63, Tryz.ntmps63
  go_wp2
  go_loopw [5, 6] (fun v5 v6 wr => ∃ a b k : Nat, v5 = .int .i64 (a : Int) ∧ v6 = .int .i64 (b : Int) ∧ a ≤ b ∧ b ≤ n ∧ b ≤ a + k ∧ Aside0 (searchF p k a b = r) ∧ Aside0 (Below w.heap.size w wr)) (fun v5 v6 _ => match v5, v6 with | .int _ x, .int _ y => (y - x).toNat | _, _ => 0)
  case atStart => exact ⟨0, n, n, rfl, rfl, Nat.zero_le _, Nat.le_refl _, by omega, ⟨hr⟩, HB⟩
  case round =>
    clear hr
    obtain ⟨a, b, k, rfl, rfl, h1, h2, h3, HA, HB⟩ := hrel
    by_cases hab : a < b
    · have hab0 : decide ((a : Int) < (b : Int)) = true := decide_eq_true (by omega)
      obtain ⟨k, rfl⟩ : ∃ m, k = m + 1 := ⟨k - 1, by omega⟩
      have ha := HA.out
      clear HA
      rw [searchF, if_pos hab] at ha
      have hh : (a + b) / 2 < n := by omega
      obtain ⟨h, hh0⟩ : ∃ h, (a + b) / 2 = h := ⟨_, rfl⟩
      have hv : (((a : Int) + (b : Int)) / 2) = (h : Int) := by omega
      rw [hh0] at ha hh
      have hc := fun W hW => hf W hW h hh
      cases hp : p h with
      | true =>
        rw [hp, if_pos rfl] at ha
        rw [hp] at hc
        have HA := Aside0.mk ha
        clear ha
        go_wp2_with (go_at_call 64; refine (hc _ HB.out).mono ?_; rintro e w' ⟨rfl, hb⟩; have n1_ := Aside0.mk (below_step HB.out hb); clear HB; have HB := n1_; clear n1_ hb)
        go_roundw
        case rel => exact ⟨a, h, k, rfl, rfl, by omega, by omega, by omega, HA, HB⟩
        case measure => simp; omega
      | false =>
        rw [hp, if_neg (by decide)] at ha
        rw [hp] at hc
        have HA := Aside0.mk ha
        clear ha
        go_wp2_with (go_at_call 64; refine (hc _ HB.out).mono ?_; rintro e w' ⟨rfl, hb⟩; have n1_ := Aside0.mk (below_step HB.out hb); clear HB; have HB := n1_; clear n1_ hb)
        go_roundw
        case rel => exact ⟨h + 1, b, k, by first | rfl | (simp; done), rfl, by omega, by omega, by omega, HA, HB⟩
        case measure => simp; omega
    · have hab0 : decide ((a : Int) < (b : Int)) = false := decide_eq_false (by omega)
      have ha := HA.out
      clear HA
      have hra : a = r := by
        cases k with
        | zero => exact ha
        | succ k => rw [searchF, if_neg hab] at ha; exact ha
      subst hra
      go_wp2
      go_ret
      exact ⟨rfl, HB.out⟩
/-- A value as it stands in a row: what it is, where its own row lies. -/
structure QV where
  v : S39
  A : Option Addr
  c : Nat
/-- Its cells. -/
def QV.cell (j : Nat) (x : QV) : Value := [Value.int .i64 x.v.f0, .bool x.v.f1, .int .i64 x.v.f2, .string x.v.f3, .string x.v.f4.f0, .string x.v.f4.f1, .slice x.A x.v.f5.length x.c].getD j .nilIface
def QV.arr (v : QV) : Array Value := #[v.cell 0, v.cell 1, v.cell 2, v.cell 3, v.cell 4, v.cell 5, v.cell 6]
def QV.kind (x : QV) : Int := x.v.f0
/-- What it leads to is there. -/
def QV.Ok (w : World) (x : QV) : Prop := x.v.f5.length ≤ x.c ∧ k39.C w x.A x.v.f5.length x.v.f5
theorem QV.Ok.below {w w' : World} {x : QV} (h : x.Ok w) (hb : Below w.heap.size w w') : x.Ok w' := ⟨h.1, Kd.C_below h.2 hb⟩
/-- How two stand. -/
def QV.cmp (x y : QV) : Int := cmpV x.v y.v
theorem less_qv (x y : QV) (w : World) (hx : x.Ok w) (hy : y.Ok w) : Calls Tryz.prog 65 #[.agg x.arr, .agg y.arr] w fun e w' => e = .returned (.bool (decide (x.cmp y < 0))) ∧ Below w.heap.size w w' :=
  less_any x.v y.v x.A y.A x.c y.c w hx.1 hx.2 hy.1 hy.2
theorem same_qv (x y : QV) (w : World) (hx : x.Ok w) (hy : y.Ok w) : Calls Tryz.prog 53 #[.agg x.arr, .agg y.arr] w fun e w' => e = .returned (.bool (x.cmp y == 0)) ∧ Below w.heap.size w w' :=
  same_any x.v y.v x.A y.A x.c y.c w hx.1 hx.2 hy.1 hy.2
/-- A value lies at an address. -/
def QV.Lies (w : World) (a : Addr) (v : QV) : Prop := ∀ j, j < 7 → w.cell? (a.add j) = some (v.cell j)
set_option maxRecDepth 100000 in
set_option maxHeartbeats 4000000 in
theorem set_closure (x y : QV) (i : Int) (n c : Nat) (g bo bv : Nat) (w : World) (h0 : 0 ≤ i) (h1 : i < (n : Int)) (ho : w.cell? ⟨bo, 0, none⟩ = some (.slice (some ⟨g, 0, none⟩) n c))
    (hxo : x.Ok w) (hyo : y.Ok w) (hx : QV.Lies w ⟨g, i.toNat * 7, none⟩ x) (hy : QV.Lies w ⟨bv, 0, none⟩ y) :
    Calls Tryz.prog 64 #[.int .i64 i, .pointer (some ⟨bo, 0, none⟩), .pointer (some ⟨bv, 0, none⟩)] w fun e w' => e = .returned (.bool (!decide (x.cmp y < 0))) ∧ Below w.heap.size w w' := by
  have HB := Aside0.mk (Below.refl w.heap.size w)
  have hl := fun W (hW : Below w.heap.size w W) => less_qv x y W (hxo.below hW) (hyo.below hW)
  clear hxo hyo
  have x0 : w.cell? ⟨g, i.toNat * 7, none⟩ = some (x.cell 0) := (congrArg w.cell? (show (⟨g, i.toNat * 7, none⟩ : Addr) = Addr.add ⟨g, i.toNat * 7, none⟩ 0 by simp [Addr.add])).trans (hx 0 (by decide))
  have x1 : w.cell? ⟨g, i.toNat * 7 + 1, none⟩ = some (x.cell 1) := (congrArg w.cell? (show (⟨g, i.toNat * 7 + 1, none⟩ : Addr) = Addr.add ⟨g, i.toNat * 7, none⟩ 1 by simp [Addr.add])).trans (hx 1 (by decide))
  have x2 : w.cell? ⟨g, i.toNat * 7 + 2, none⟩ = some (x.cell 2) := (congrArg w.cell? (show (⟨g, i.toNat * 7 + 2, none⟩ : Addr) = Addr.add ⟨g, i.toNat * 7, none⟩ 2 by simp [Addr.add])).trans (hx 2 (by decide))
  have x3 : w.cell? ⟨g, i.toNat * 7 + 3, none⟩ = some (x.cell 3) := (congrArg w.cell? (show (⟨g, i.toNat * 7 + 3, none⟩ : Addr) = Addr.add ⟨g, i.toNat * 7, none⟩ 3 by simp [Addr.add])).trans (hx 3 (by decide))
  have x4 : w.cell? ⟨g, i.toNat * 7 + 4, none⟩ = some (x.cell 4) := (congrArg w.cell? (show (⟨g, i.toNat * 7 + 4, none⟩ : Addr) = Addr.add ⟨g, i.toNat * 7, none⟩ 4 by simp [Addr.add])).trans (hx 4 (by decide))
  have x5 : w.cell? ⟨g, i.toNat * 7 + 5, none⟩ = some (x.cell 5) := (congrArg w.cell? (show (⟨g, i.toNat * 7 + 5, none⟩ : Addr) = Addr.add ⟨g, i.toNat * 7, none⟩ 5 by simp [Addr.add])).trans (hx 5 (by decide))
  have x6 : w.cell? ⟨g, i.toNat * 7 + 6, none⟩ = some (x.cell 6) := (congrArg w.cell? (show (⟨g, i.toNat * 7 + 6, none⟩ : Addr) = Addr.add ⟨g, i.toNat * 7, none⟩ 6 by simp [Addr.add])).trans (hx 6 (by decide))
  have y0 : w.cell? ⟨bv, 0, none⟩ = some (y.cell 0) := (congrArg w.cell? (show (⟨bv, 0, none⟩ : Addr) = Addr.add ⟨bv, 0, none⟩ 0 by simp [Addr.add])).trans (hy 0 (by decide))
  have y1 : w.cell? ⟨bv, 1, none⟩ = some (y.cell 1) := (congrArg w.cell? (show (⟨bv, 1, none⟩ : Addr) = Addr.add ⟨bv, 0, none⟩ 1 by simp [Addr.add])).trans (hy 1 (by decide))
  have y2 : w.cell? ⟨bv, 2, none⟩ = some (y.cell 2) := (congrArg w.cell? (show (⟨bv, 2, none⟩ : Addr) = Addr.add ⟨bv, 0, none⟩ 2 by simp [Addr.add])).trans (hy 2 (by decide))
  have y3 : w.cell? ⟨bv, 3, none⟩ = some (y.cell 3) := (congrArg w.cell? (show (⟨bv, 3, none⟩ : Addr) = Addr.add ⟨bv, 0, none⟩ 3 by simp [Addr.add])).trans (hy 3 (by decide))
  have y4 : w.cell? ⟨bv, 4, none⟩ = some (y.cell 4) := (congrArg w.cell? (show (⟨bv, 4, none⟩ : Addr) = Addr.add ⟨bv, 0, none⟩ 4 by simp [Addr.add])).trans (hy 4 (by decide))
  have y5 : w.cell? ⟨bv, 5, none⟩ = some (y.cell 5) := (congrArg w.cell? (show (⟨bv, 5, none⟩ : Addr) = Addr.add ⟨bv, 0, none⟩ 5 by simp [Addr.add])).trans (hy 5 (by decide))
  have y6 : w.cell? ⟨bv, 6, none⟩ = some (y.cell 6) := (congrArg w.cell? (show (⟨bv, 6, none⟩ : Addr) = Addr.add ⟨bv, 0, none⟩ 6 by simp [Addr.add])).trans (hy 6 (by decide))
  clear hx hy
  have h0t := eq_true h0
  have h1t := eq_true h1
  unfold QV.arr at hl
  generalize (decide (x.cmp y < 0)) = rr at hl ⊢
  generalize QV.cell 0 x = a0 at hl x0
  generalize QV.cell 1 x = a1 at hl x1
  generalize QV.cell 2 x = a2 at hl x2
  generalize QV.cell 3 x = a3 at hl x3
  generalize QV.cell 4 x = a4 at hl x4
  generalize QV.cell 5 x = a5 at hl x5
  generalize QV.cell 6 x = a6 at hl x6
  generalize QV.cell 0 y = b0 at hl y0
  generalize QV.cell 1 y = b1 at hl y1
  generalize QV.cell 2 y = b2 at hl y2
  generalize QV.cell 3 y = b3 at hl y3
  generalize QV.cell 4 y = b4 at hl y4
  generalize QV.cell 5 y = b5 at hl y5
  generalize QV.cell 6 y = b6 at hl y6
  go_enter Tryz.func64, Tryz.ntmps64
  go_wp2_with fail
  have HLL := Aside0.mk hl
  clear hl
  have hB0 := Below.refl w.heap.size w
  go_region_held3 (fun w' => w'.cell? ⟨bo, 0, none⟩ = some (.slice (some ⟨g, 0, none⟩) n c) ∧ w'.cell? ⟨g, i.toNat * 7, none⟩ = some a0 ∧ w'.cell? ⟨g, i.toNat * 7 + 1, none⟩ = some a1 ∧ w'.cell? ⟨g, i.toNat * 7 + 2, none⟩ = some a2 ∧ w'.cell? ⟨g, i.toNat * 7 + 3, none⟩ = some a3 ∧ w'.cell? ⟨g, i.toNat * 7 + 4, none⟩ = some a4 ∧ w'.cell? ⟨g, i.toNat * 7 + 5, none⟩ = some a5 ∧ w'.cell? ⟨g, i.toNat * 7 + 6, none⟩ = some a6 ∧ w'.cell? ⟨bv, 0, none⟩ = some b0 ∧ w'.cell? ⟨bv, 1, none⟩ = some b1 ∧ w'.cell? ⟨bv, 2, none⟩ = some b2 ∧ w'.cell? ⟨bv, 3, none⟩ = some b3 ∧ w'.cell? ⟨bv, 4, none⟩ = some b4 ∧ w'.cell? ⟨bv, 5, none⟩ = some b5 ∧ w'.cell? ⟨bv, 6, none⟩ = some b6 ∧ Below w.heap.size w w')
    ((first | (go_split_ands; refine ⟨?_, ?_, ?_, ?_, ?_, ?_, ?_, ?_, ?_, ?_, ?_, ?_, ?_, ?_, ?_, ?_⟩ <;> first | assumption | (apply below_drew1; assumption) | (simp; assumption) | exact (hb.cell (World.block_lt_of_cell? _ _ (by assumption))).trans (by assumption) | exact below_step (by assumption) hb) | (refine ⟨?_, ?_, ?_, ?_, ?_, ?_, ?_, ?_, ?_, ?_, ?_, ?_, ?_, ?_, ?_, ?_⟩ <;> first | assumption | (apply below_drew1; assumption) | (simp; assumption))))
    ((go_at_call 65; refine (HLL.out _ (by first | assumption | (apply below_drew1; assumption))).mono ?_; rintro e w' ⟨rfl, hb⟩))
  go_split_ands
  go_wp2
  go_ret
  exact ⟨rfl, by assumption⟩
/-- The cells of a row of plain values. -/
def flatQV (vs : List QV) : List Value := vs.flatMap fun x => [x.cell 0, x.cell 1, x.cell 2, x.cell 3, x.cell 4, x.cell 5, x.cell 6]
theorem flatQV_length (vs : List QV) : (flatQV vs).length = vs.length * 7 := by
  induction vs with
  | nil => rfl
  | cons x r ih => simp [flatQV] at ih ⊢; omega
theorem flatQV_append (a b : List QV) : flatQV (a ++ b) = flatQV a ++ flatQV b := by simp [flatQV]
theorem flatQV_take (vs : List QV) : ∀ i, (flatQV vs).take (i * 7) = flatQV (vs.take i) := by
  induction vs with
  | nil => intro i; simp [flatQV]
  | cons x r ih =>
    intro i
    cases i with
    | zero => simp [flatQV]
    | succ i =>
      have := ih i
      rw [show (i + 1) * 7 = i * 7 + 7 by omega]
      simp only [flatQV, List.flatMap_cons, List.take_succ_cons, List.cons_append, List.nil_append] at this ⊢
      rw [this]
theorem flatQV_drop (vs : List QV) : ∀ i, (flatQV vs).drop (i * 7) = flatQV (vs.drop i) := by
  induction vs with
  | nil => intro i; simp [flatQV]
  | cons x r ih =>
    intro i
    cases i with
    | zero => simp [flatQV]
    | succ i =>
      have := ih i
      rw [show (i + 1) * 7 = i * 7 + 7 by omega]
      simp only [flatQV, List.flatMap_cons, List.drop_succ_cons, List.cons_append, List.nil_append] at this ⊢
      rw [this]
theorem flatQV_at (vs : List QV) : ∀ (h : Nat) (x : QV), vs[h]? = some x → ∀ j, j < 7 → (flatQV vs)[h * 7 + j]? = some (x.cell j) := by
  induction vs with
  | nil => intro h x hx; simp at hx
  | cons y r ih =>
    intro h x hx j hj
    cases h with
    | zero =>
      simp at hx
      subst hx
      have : j = 0 ∨ j = 1 ∨ j = 2 ∨ j = 3 ∨ j = 4 ∨ j = 5 ∨ j = 6 := by omega
      rcases this with rfl | rfl | rfl | rfl | rfl | rfl | rfl <;> simp [flatQV]
    | succ h =>
      have := ih h x (by simpa using hx) j hj
      rw [show (h + 1) * 7 + j = (h * 7 + j) + 7 by omega]
      simpa [flatQV] using this
theorem QV.one (x : QV) (j : Nat) (hj : j < 7) : (x.cell j).oneCell' = true := by
  have : j = 0 ∨ j = 1 ∨ j = 2 ∨ j = 3 ∨ j = 4 ∨ j = 5 ∨ j = 6 := by omega
  rcases this with rfl | rfl | rfl | rfl | rfl | rfl | rfl <;> rfl
theorem flatQV_one (vs : List QV) : ∀ u ∈ flatQV vs, u.oneCell' = true := by
  intro u hu
  simp only [flatQV, List.mem_flatMap, List.mem_cons, List.not_mem_nil, or_false] at hu
  obtain ⟨x, _, h⟩ := hu
  rcases h with rfl | rfl | rfl | rfl | rfl | rfl | rfl
  · exact QV.one x 0 (by omega)
  · exact QV.one x 1 (by omega)
  · exact QV.one x 2 (by omega)
  · exact QV.one x 3 (by omega)
  · exact QV.one x 4 (by omega)
  · exact QV.one x 5 (by omega)
  · exact QV.one x 6 (by omega)
theorem QV.cell0 (x : QV) : x.cell 0 = .int .i64 x.kind := rfl
/-- Where a value stands, or would, in a row. -/
def placeOf (vs : List QV) (y : QV) : Nat := searchF (fun h => match vs[h]? with | some x => !decide (x.cmp y < 0) | none => false) vs.length 0 vs.length
/-- A row with one value more, unless it has it. -/
def setIns (vs : List QV) (y : QV) : List QV :=
  match vs[placeOf vs y]? with
  | some x => if x.cmp y == 0 then vs else vs.take (placeOf vs y) ++ [y] ++ vs.drop (placeOf vs y)
  | none => vs.take (placeOf vs y) ++ [y] ++ vs.drop (placeOf vs y)
theorem searchF_le (p : Nat → Bool) : ∀ k a b, a ≤ b → searchF p k a b ≤ b := by
  intro k
  induction k with
  | zero => intro a b h; exact h
  | succ k ih =>
    intro a b h
    rw [searchF]
    by_cases hab : a < b
    · rw [if_pos hab]
      split
      · exact Nat.le_trans (ih _ _ (by omega)) (by omega)
      · exact ih _ _ (by omega)
    · rw [if_neg hab]; exact h
theorem placeOf_le (vs : List QV) (y : QV) : placeOf vs y ≤ vs.length := searchF_le _ _ _ _ (Nat.zero_le _)
theorem setIns_length (vs : List QV) (y : QV) : (setIns vs y).length ≤ vs.length + 1 := by
  unfold setIns
  have := placeOf_le vs y
  split
  · split
    · omega
    · simp; omega
  · simp; omega
theorem setIns_all (P : QV → Prop) (vs : List QV) (y : QV) (h : ∀ x ∈ vs, P x) (hy : P y) : ∀ x ∈ setIns vs y, P x := by
  have hh : ∀ x ∈ vs.take (placeOf vs y) ++ [y] ++ vs.drop (placeOf vs y), P x := by
    intro x hx
    simp only [List.mem_append, List.mem_singleton] at hx
    rcases hx with (hx | rfl) | hx
    · exact h x (List.mem_of_mem_take hx)
    · exact hy
    · exact h x (List.mem_of_mem_drop hx)
  unfold setIns
  split
  · split
    · exact h
    · exact hh
  · exact hh
/-- The invariant of value.Set's loop. -/
structure SInv (w : World) (b : Nat) (vs : List QV) (outv : Value) (wr : World) : Prop where
  below : Below b w wr
  res : wr.heap[b]? = some (.cells #[.int .i64 0, .bool false, .int .i64 0, .string ⟨#[]⟩, .string ⟨#[]⟩, .string ⟨#[]⟩, .slice none 0 0] 39 (0, 0))
  out : wr.heap[b + 1]? = some (.cells #[outv] 37 (0, 0))
  row : wr.ownsRow (b + 2) 39 7 outv vs.length (flatQV vs)
theorem lt_of_heap {w : World} {k : Nat} {o : Obj} (h : w.heap[k]? = some o) : k < w.heap.size := (Array.getElem?_eq_some_iff.1 h).1
theorem SInv.mono {w : World} {b : Nat} {vs : List QV} {outv : Value} {wr wr' : World} (h : SInv w b vs outv wr) (hb : Below wr.heap.size wr wr') : SInv w b vs outv wr' := by
  have h1 := lt_of_heap h.res
  have h2 := lt_of_heap h.out
  refine ⟨h.below.trans (hb.mono (by omega)), (hb.block _ h1).trans h.res, (hb.block _ h2).trans h.out, ?_⟩
  refine ⟨h.row.1, ?_⟩
  rcases h.row.2 with h3 | ⟨g, cap, cur, e1, e2, e3, e4⟩
  · exact .inl h3
  · exact .inr ⟨g, cap, cur, e1, e2, (hb.block _ (lt_of_heap e3)).trans e3, e4⟩
theorem SInv.outCell {w : World} {b : Nat} {vs : List QV} {outv : Value} {wr : World} (h : SInv w b vs outv wr) : wr.cell? ⟨b + 1, 0, none⟩ = some outv := by
  unfold World.cell?
  rw [h.out]
  rfl
theorem SInv.outFrozen {w : World} {b : Nat} {vs : List QV} {outv : Value} {wr : World} (h : SInv w b vs outv wr) : wr.frozen? ⟨b + 1, 0, none⟩ = false := by
  unfold World.frozen?
  rw [h.out]
  rfl
/-- What the row of the elements is: none, or a block of their cells. -/
theorem SInv.cases {w : World} {b : Nat} {vs : List QV} {outv : Value} {wr : World} (h : SInv w b vs outv wr) : (outv = .slice none 0 0 ∧ vs = []) ∨ ∃ g c, outv = .slice (some ⟨g, 0, none⟩) vs.length c ∧ b + 2 ≤ g ∧ ∀ i x, vs[i]? = some x → QV.Lies wr ⟨g, i * 7, none⟩ x := by
  rcases h.row.2 with ⟨h3, h4⟩ | ⟨g, cap, cur, e1, e2, e3, e4⟩
  · exact .inl ⟨h3, List.eq_nil_of_length_eq_zero h4⟩
  · refine .inr ⟨g, cap, e1, e2, fun i x hx j hj => ?_⟩
    have hc := World.ownsRow.cells (g := g) h.row (by rw [e1]; rfl) (i * 7 + j) _ (flatQV_at vs i x hx j hj)
    rw [Addr.add_lit] at hc ⊢
    rwa [Nat.zero_add] at hc
theorem QV.Lies.below {w w' : World} {a : Addr} {x : QV} (h : QV.Lies w a x) (hb : Below w.heap.size w w') : QV.Lies w' a x := fun j hj => by
  have h1 := h j hj
  exact (hb.cell (World.block_lt_of_cell? _ _ h1)).trans h1
/-- sort.Search, asked by value.Set. -/
theorem search_set (w0 : World) (b : Nat) (vs : List QV) (y : QV) (hn : vs.length ≤ 1000) (outv : Value) (bv : Nat) (wr w : World) (hi : SInv w0 b vs outv wr) (hb : Below wr.heap.size wr w) (hoks : ∀ x ∈ vs, x.Ok w) (hoky : y.Ok w) (hy : QV.Lies w ⟨bv, 0, none⟩ y) :
    Calls Tryz.prog 63 #[.int .i64 (vs.length : Int), .func (.func 64) #[] #[.pointer (some ⟨b + 1, 0, none⟩), .pointer (some ⟨bv, 0, none⟩)]] w fun e w' => e = .returned (.int .i64 ((placeOf vs y : Nat) : Int)) ∧ Below w.heap.size w w' := by
  refine search34 vs.length hn _ (b + 1) bv w (fun W hW h hh => ?_)
  have hi2 := (hi.mono hb).mono hW
  rcases hi2.cases with ⟨_, rfl⟩ | ⟨g, c, e1, _, hl⟩
  · simp at hh
  · have hx := List.getElem?_eq_getElem hh
    have ho := hi2.outCell
    rw [e1] at ho
    rw [hx]
    exact set_closure vs[h] y (h : Int) vs.length c g (b + 1) bv W (by omega) (by omega) ho ((hoks _ (List.getElem_mem hh)).below hW) (hoky.below hW) (by simpa using hl h _ hx) (hy.below hW)
theorem store_of {v : Value} (h : v.oneCell' = true) : ∀ (a : Addr) (m : Mode) (w : World), (store a v m).run Tryz.prog w = stored Tryz.prog w a v m := fun a m w => run_store Tryz.prog w a v m h
theorem SInv.start (w : World) : SInv w w.heap.size [] (.slice none 0 0) ((w.alloc (.cells #[.int .i64 0, .bool false, .int .i64 0, .string ⟨#[]⟩, .string ⟨#[]⟩, .string ⟨#[]⟩, .slice none 0 0] 39 (0, 0))).alloc (.cells #[.slice none 0 0] 37 (0, 0))) := by
  refine ⟨?_, ?_, ?_, ⟨rfl, .inl ⟨rfl, rfl⟩⟩⟩
  · exact ((Below.refl _ _).alloc (Nat.le_refl _) _).alloc (by simp) _
  · rw [Below.heap_alloc _ _ _ (by simp)]
    exact blk_new _ _
  · have h := blk_new (w.alloc (.cells #[.int .i64 0, .bool false, .int .i64 0, .string ⟨#[]⟩, .string ⟨#[]⟩, .string ⟨#[]⟩, .slice none 0 0] 39 (0, 0))) (.cells #[.slice none 0 0] 37 (0, 0))
    simpa using h
/-- The row has grown, the box of it not yet. -/
structure SPre (w : World) (b : Nat) (vs : List QV) (outv v' : Value) (wr : World) : Prop where
  below : Below b w wr
  res : wr.heap[b]? = some (.cells #[.int .i64 0, .bool false, .int .i64 0, .string ⟨#[]⟩, .string ⟨#[]⟩, .string ⟨#[]⟩, .slice none 0 0] 39 (0, 0))
  out : wr.heap[b + 1]? = some (.cells #[outv] 37 (0, 0))
  row : wr.ownsRow (b + 2) 39 7 v' vs.length (flatQV vs)
theorem SPre.one {w : World} {b : Nat} {vs : List QV} {outv v' : Value} {wr : World} (h : SPre w b vs outv v' wr) : v'.oneCell' = true := by
  rcases h.row.2 with ⟨rfl, _⟩ | ⟨g, cap, cur, rfl, _⟩ <;> rfl
theorem SPre.outCell {w : World} {b : Nat} {vs : List QV} {outv v' : Value} {wr : World} (h : SPre w b vs outv v' wr) : wr.cell? ⟨b + 1, 0, none⟩ = some outv := by
  unfold World.cell?
  rw [h.out]
  rfl
theorem SPre.outFrozen {w : World} {b : Nat} {vs : List QV} {outv v' : Value} {wr : World} (h : SPre w b vs outv v' wr) : wr.frozen? ⟨b + 1, 0, none⟩ = false := by
  unfold World.frozen?
  rw [h.out]
  rfl
theorem SPre.store {w : World} {b : Nat} {vs : List QV} {outv v' : Value} {wr : World} (h : SPre w b vs outv v' wr) : SInv w b vs v' (wr.setCell ⟨b + 1, 0, none⟩ v') := by
  have h0 := Below.heap_setCell wr ⟨b + 1, 0, none⟩ v'
  refine ⟨h.below.setCell (by simp) v', (h0 b (by simp)).trans h.res, ?_, ?_⟩
  · exact setCell_heap wr (b + 1) 0 v' [outv] 37 (0, 0) h.out
  · refine ⟨h.row.1, ?_⟩
    rcases h.row.2 with h3 | ⟨g, cap, cur, e1, e2, e3, e4⟩
    · exact .inl h3
    · refine .inr ⟨g, cap, cur, e1, e2, (h0 g (by show g ≠ b + 1; omega)).trans e3, e4⟩
/-- slices.Insert of one value, called by value.Set. -/
theorem insert_set {w0 : World} {b : Nat} {vs : List QV} {outv : Value} {W' : World} (hI : SInv w0 b vs outv W') (W : World) (hW : Below W'.heap.size W' W) (hvs : vs.length ≤ 1000) (i : Nat) (hi : i ≤ vs.length) (y : QV) (vb vc : Nat) (hvb : W'.heap.size ≤ vb)
    (vcur : Array Value) (hvc : W.heap[vb]? = some (.cells vcur 39 (0, 0))) (hy : QV.Lies W ⟨vb, 0, none⟩ y) :
    Calls Tryz.prog 66 #[outv, .int .i64 (i : Int), .slice (some ⟨vb, 0, none⟩) 1 vc] W fun e w' => ∃ v', e = .returned v' ∧ SPre w0 b (vs.take i ++ [y] ++ vs.drop i) outv v' w' := by
  have hI2 := hI.mono hW
  have hr := hI2.row
  have hres := lt_of_heap hI2.res
  have hout := lt_of_heap hI2.out
  have hne : outv.ownBlock ≠ some vb := by
    rcases hI.row.2 with ⟨rfl, _⟩ | ⟨g, cap, cur, rfl, _, e3, _⟩
    · simp [Value.ownBlock]
    · have := lt_of_heap e3
      simp [Value.ownBlock]
      omega
  have hfar : ∀ k, k < b + 2 → some k ≠ outv.ownBlock := by
    intro k hk
    rcases hI.row.2 with ⟨rfl, _⟩ | ⟨g, cap, cur, rfl, h2, e3, _⟩
    · simp [Value.ownBlock]
    · simp [Value.ownBlock]
      omega
  refine (insert_any outv vs.length i (flatQV vs) (flatQV [y]) (b + 2) vb vc vcur W hvs hi hr (by omega) hne hvc (by rw [flatQV_length]; rfl) ?_ (flatQV_one _) (flatQV_one _)).mono ?_
  · intro j u hu
    have hj : j < 7 := by
      have := (List.getElem?_eq_some_iff.1 hu).1
      rw [flatQV_length] at this
      simpa using this
    have h1 := flatQV_at [y] 0 y rfl j hj
    rw [Nat.zero_mul, Nat.zero_add] at h1
    rw [h1] at hu
    cases hu
    exact hy j hj
  · rintro e w' ⟨v', rfl, hrow, hg⟩
    refine ⟨v', rfl, ?_, ?_, ?_, ?_⟩
    · exact hI2.below.trans ⟨hg.os, hg.tape, hg.output, hg.size, fun k hk => hg.block k (by omega) (hfar k (by omega))⟩
    · exact (hg.block b hres (hfar b (by omega))).trans hI2.res
    · exact (hg.block (b + 1) hout (hfar (b + 1) (by omega))).trans hI2.out
    · have e1 : (vs.take i ++ [y] ++ vs.drop i).length = vs.length + 1 := by simp; omega
      rw [e1, flatQV_append, flatQV_append, ← flatQV_take, ← flatQV_drop]
      exact hrow
theorem foldl_setIns_length : ∀ (l vs : List QV), (l.foldl setIns vs).length ≤ vs.length + l.length
  | [], _ => Nat.le_refl _
  | x :: l, vs => by
    have h1 := foldl_setIns_length l (setIns vs x)
    have h2 := setIns_length vs x
    simp only [List.foldl_cons, List.length_cons]
    omega
theorem foldl_setIns_all (P : QV → Prop) : ∀ (l vs : List QV), (∀ x ∈ vs, P x) → (∀ x ∈ l, P x) → ∀ x ∈ l.foldl setIns vs, P x
  | [], _, h, _ => h
  | y :: l, vs, h, h2 => foldl_setIns_all P l (setIns vs y) (setIns_all P vs y h (h2 y (List.mem_cons_self ..))) (fun x hx => h2 x (List.mem_cons_of_mem _ hx))
theorem SInv.shape {w : World} {b : Nat} {vs : List QV} {outv : Value} {wr : World} (h : SInv w b vs outv wr) : ∃ p c, outv = .slice p vs.length c ∧ ∀ i x, vs[i]? = some x → ∃ g, p = some ⟨g, 0, none⟩ ∧ QV.Lies wr ⟨g, i * 7, none⟩ x := by
  rcases h.cases with ⟨rfl, rfl⟩ | ⟨g, c, h1, _, h3⟩
  · exact ⟨none, 0, rfl, fun i x hx => by simp at hx⟩
  · exact ⟨_, c, h1, fun i x hx => ⟨g, rfl, h3 i x hx⟩⟩
theorem QV.Lies.at {w : World} {g o : Nat} {x : QV} (h : QV.Lies w ⟨g, o, none⟩ x) (j : Nat) (hj : j < 7) : w.cell? ⟨g, o + j, none⟩ = some (x.cell j) := (congrArg w.cell? (show (⟨g, o + j, none⟩ : Addr) = Addr.add ⟨g, o, none⟩ j by simp [Addr.add])).trans (h j hj)
theorem QV.Lies.of7 {w : World} {g : Nat} {x : QV} (h0 : w.cell? ⟨g, 0, none⟩ = some (x.cell 0)) (h1 : w.cell? ⟨g, 1, none⟩ = some (x.cell 1)) (h2 : w.cell? ⟨g, 2, none⟩ = some (x.cell 2)) (h3 : w.cell? ⟨g, 3, none⟩ = some (x.cell 3)) (h4 : w.cell? ⟨g, 4, none⟩ = some (x.cell 4)) (h5 : w.cell? ⟨g, 5, none⟩ = some (x.cell 5)) (h6 : w.cell? ⟨g, 6, none⟩ = some (x.cell 6)) : QV.Lies w ⟨g, 0, none⟩ x := by
  intro j hj
  have hh : (Addr.add ⟨g, 0, none⟩ j : Addr) = ⟨g, j, none⟩ := by rw [Addr.add_lit, Nat.zero_add]
  rw [hh]
  have : j = 0 ∨ j = 1 ∨ j = 2 ∨ j = 3 ∨ j = 4 ∨ j = 5 ∨ j = 6 := by omega
  rcases this with rfl | rfl | rfl | rfl | rfl | rfl | rfl <;> assumption
theorem SPre.shape {w : World} {b : Nat} {vs : List QV} {outv v' : Value} {wr : World} (h : SPre w b vs outv v' wr) : ∃ q n c, v' = .slice q n c := by
  rcases h.row.2 with ⟨rfl, _⟩ | ⟨g, cap, cur, rfl, _⟩ <;> exact ⟨_, _, _, rfl⟩
theorem results_row_tmp {P : Program} {fn : Func} {p u : Tmp} {ty : TypeId} (h : fn.results = #[.cell p ty, .tmp u]) (tmps : Array Value) (w : World) (g : Nat) (t : TypeId) (cs : Array Value) (fr : Nat × Nat) (d : TypeDesc)
    (hp : tmps.getD p undef = .pointer (some ⟨g, 0, none⟩)) (hg : w.heap[g]? = some (.cells cs t fr))
    (hu : P.underlying ty = some d) (hd : (match d with | .struct _ | .array _ _ => true | _ => false) = true) (hi : (P.info? ty).map (·.size) = some cs.size) :
    (results fn tmps).run P w = .ok (.tuple #[.agg cs, tmps.getD u undef]) w := by
  rw [results_cell_tmp h, hp]
  simp [asAddr, run_loadVar_row w g t ty cs fr d hg hu hd hi, Result.andThen]
theorem below_cells {B : Nat} (b : Nat) (hb : B ≤ b) : ∀ (vs : List Value) (o : Nat) (w : World), Below B w (w.setCells b o vs)
  | [], _, w => Below.refl _ w
  | v :: vs, o, w => ((Below.refl B w).setCell (p := ⟨b, o, none⟩) hb v).trans (below_cells b hb vs (o + 1) _)
/-- How value.Set ends: the first m of n values could be taken. -/
def SetEnds (w : World) (n m : Nat) (vs : List QV) (e : Ending) (w' : World) : Prop :=
  Below w.heap.size w w' ∧ (if m < n then e = .returned (.tuple #[.agg #[.int .i64 0, .bool false, .int .i64 0, .string ⟨#[]⟩, .string ⟨#[]⟩, .string ⟨#[]⟩, .slice none 0 0], .int .i64 16]) else ∃ outv, w'.ownsRow (w.heap.size + 2) 39 7 outv vs.length (flatQV vs) ∧
    e = .returned (.tuple #[.agg #[.int .i64 (if vs.length ≤ 8 then 5 else 0), .bool false, .int .i64 0, .string ⟨#[]⟩, .string ⟨#[]⟩, .string ⟨#[]⟩, if vs.length ≤ 8 then outv else .slice none 0 0], .int .i64 (if vs.length ≤ 8 then 0 else 4)]))
/-- A value stands at place k of a row. -/
theorem QV.at_row {w : World} {ad : Addr} {k : Nat} {x : QV} (h : ∀ j, j < 7 → w.cell? (ad.add (k * 7 + j)) = some (x.cell j)) : w.cell? (ad.add (k * 7)) = some (x.cell 0) ∧ w.cell? ⟨(ad.add (k * 7)).block, (ad.add (k * 7)).off + 1, none⟩ = some (x.cell 1) ∧ w.cell? ⟨(ad.add (k * 7)).block, (ad.add (k * 7)).off + 2, none⟩ = some (x.cell 2) ∧ w.cell? ⟨(ad.add (k * 7)).block, (ad.add (k * 7)).off + 3, none⟩ = some (x.cell 3) ∧ w.cell? ⟨(ad.add (k * 7)).block, (ad.add (k * 7)).off + 4, none⟩ = some (x.cell 4) ∧ w.cell? ⟨(ad.add (k * 7)).block, (ad.add (k * 7)).off + 5, none⟩ = some (x.cell 5) ∧ w.cell? ⟨(ad.add (k * 7)).block, (ad.add (k * 7)).off + 6, none⟩ = some (x.cell 6) :=
  ⟨by have := h 0 (by decide); rwa [Nat.add_zero] at this, by rw [← add_field _ _ 1 (by omega)]; exact h 1 (by decide), by rw [← add_field _ _ 2 (by omega)]; exact h 2 (by decide), by rw [← add_field _ _ 3 (by omega)]; exact h 3 (by decide), by rw [← add_field _ _ 4 (by omega)]; exact h 4 (by decide), by rw [← add_field _ _ 5 (by omega)]; exact h 5 (by decide), by rw [← add_field _ _ 6 (by omega)]; exact h 6 (by decide)⟩
theorem SInv.done {w : World} {b : Nat} {vs : List QV} {outv : Value} {wr : World} (h : SInv w b vs outv wr) (c0 c1 c2 c3 c4 c5 c6 : Value) :
    (wr.setCells b 0 [c0, c1, c2, c3, c4, c5, c6]).heap[b]? = some (.cells #[c0, c1, c2, c3, c4, c5, c6] 39 (0, 0)) ∧ Below b w (wr.setCells b 0 [c0, c1, c2, c3, c4, c5, c6]) ∧ (wr.setCells b 0 [c0, c1, c2, c3, c4, c5, c6]).ownsRow (b + 2) 39 7 outv vs.length (flatQV vs) := by
  refine ⟨?_, ?_, ?_⟩
  · have := setCells_heap b 39 (0, 0) [c0, c1, c2, c3, c4, c5, c6] 0 wr _ h.res (by show 0 + 7 ≤ 7; omega)
    simpa using this
  · exact h.below.trans (below_cells b (Nat.le_refl _) _ _ _)
  · refine ⟨h.row.1, ?_⟩
    rcases h.row.2 with h3 | ⟨g, cap, cur, e1, e2, e3, e4⟩
    · exact .inl h3
    · exact .inr ⟨g, cap, cur, e1, e2, (World.heap_setCells_other _ _ _ _ (lt_of_heap e3) (by omega)).trans e3, e4⟩
set_option maxRecDepth 100000 in
set_option maxHeartbeats 16000000 in
/-- value.Set of plain values of one kind. -/
theorem set_walk (K : Int) (hK : K ≠ 5) (l : List QV) (m : Nat) (hm : m ≤ l.length) (hn : l.length ≤ 1000) (hk : ∀ x ∈ l.take m, x.kind = K) (hbad : ∀ x, l[m]? = some x → x.kind = 5 ∨ (0 < m ∧ x.kind ≠ K)) (p0 : Option Addr) (c : Nat) (w : World) (hok : ∀ x ∈ l, x.Ok w) (hl : ∀ i x, l[i]? = some x → ∃ ad, p0 = some ad ∧ ∀ j, j < 7 → w.cell? (ad.add (i * 7 + j)) = some (x.cell j)) :
    Calls Tryz.prog 43 #[.slice p0 l.length c] w (SetEnds w l.length m ((l.take m).foldl setIns [])) := by
  have HX := Aside0.mk hl
  have HK := Aside0.mk hk
  have HOK := Aside0.mk hok
  have HBAD := Aside0.mk hbad
  clear hl hk hok hbad
  go_enter Tryz.func43, Tryz.ntmps43
  go_wp2
  go_loopw [10] (fun v wr => ∃ k : Nat, v = .int .i64 (k : Int) ∧ k ≤ m ∧ ∃ outv, Aside0 (SInv w w.heap.size ((l.take k).foldl setIns []) outv wr)) (fun v _ => match v with | .int _ x => l.length - x.toNat | _ => 0)
  case atStart => exact ⟨0, rfl, Nat.zero_le _, _, ⟨SInv.start w⟩⟩
  case round =>
    obtain ⟨k, rfl, hk, outv, HI⟩ := hrel
    by_cases hkm : k < m
    · have hlt : k < l.length := by omega
      obtain ⟨ad, rfl, hlx⟩ := HX.out k _ (List.getElem?_eq_getElem hlt)
      have hmem : l[k]'hlt ∈ l.take m := List.mem_take_iff_getElem.2 ⟨k, by omega, rfl⟩
      have hlt0 : decide ((k : Int) < (l.length : Int)) = true := decide_eq_true (by omega)
      have p0 : (0 ≤ (k : Int)) = True := eq_true (by omega)
      have p1 : ((k : Int) < (l.length : Int)) = True := eq_true (by omega)
      have p2 : ((0 : Int) < (l.length : Int)) = True := eq_true (by omega)
      have p3 : (0 < l.length) = True := eq_true (by omega)
      have HOx := HOK.out _ (List.getElem_mem hlt)
      have HLx : Aside0 (∀ j, j < 7 → wr.cell? (ad.add (k * 7 + j)) = some ((l[k]'hlt).cell j)) := ⟨fun j hj => (HI.out.below.cell (World.block_lt_of_cell? _ _ (hlx j hj))).trans (hlx j hj)⟩
      have zz : ∀ j, j < 7 → ∃ y, wr.cell? (ad.add j) = some y ∧ (j = 0 → y = .int .i64 K) := by
        intro j hj
        have h0 : 0 < l.length := by omega
        obtain ⟨g', hg', hl0⟩ := HX.out 0 _ (List.getElem?_eq_getElem h0)
        obtain rfl : ad = g' := by injection hg'
        have h1 := (HI.out.below.cell (World.block_lt_of_cell? _ _ (hl0 j hj))).trans (hl0 j hj)
        rw [Nat.zero_mul, Nat.zero_add] at h1
        refine ⟨_, h1, ?_⟩
        rintro rfl
        rw [QV.cell0, HK.out _ (List.mem_take_iff_getElem.2 ⟨0, by omega, rfl⟩)]
      have z0 : wr.cell? ad = some (.int .i64 K) := by
        obtain ⟨y, h1, h2⟩ := zz 0 (by decide)
        rw [h2 rfl] at h1
        simpa [Addr.add] using h1
      clear zz
      have hkk := HK.out _ hmem
      have hvl : ((l.take k).foldl setIns []).length ≤ k := by
        have := foldl_setIns_length (l.take k) []
        simp at this
        omega
      have HVK : Aside0 (∀ x ∈ (l.take k).foldl setIns [], x.kind = K) := ⟨foldl_setIns_all (fun x => x.kind = K) _ [] (by simp) (fun x hx => HK.out x ((List.take_subset_take_left l (Nat.le_of_lt hkm)) hx))⟩
      have HVO : Aside0 (∀ x ∈ (l.take k).foldl setIns [], x.Ok w) := ⟨foldl_setIns_all (fun x => x.Ok w) _ [] (by simp) (fun x hx => HOK.out x (List.mem_of_mem_take hx))⟩
      have HST : Aside0 ((l.take (k + 1)).foldl setIns [] = setIns ((l.take k).foldl setIns []) (l[k]'hlt)) := ⟨by
        rw [List.take_add_one, List.getElem?_eq_getElem hlt, List.foldl_append]
        rfl⟩
      clear hlx hmem
      generalize (l.take k).foldl setIns [] = vs at HI hvl HVK HST HVO
      generalize l[k]'hlt = xk at HLx hkk HST HOx
      have HOX := Aside0.mk HOx
      clear HOx
      obtain ⟨x0, x1, x2, x3, x4, x5, x6⟩ := QV.at_row HLx.out
      have hkc : xk.cell 0 = .int .i64 K := by rw [QV.cell0, hkk]
      rw [hkc] at x0
      have hg : (ad.add (k * 7)).block < wr.heap.size := World.block_lt_of_cell? _ _ x0
      have hg1 : ¬ (ad.add (k * 7)).block = wr.heap.size := Nat.ne_of_lt hg
      have hz : ad.block < wr.heap.size := World.block_lt_of_cell? _ _ z0
      have hz1 : ¬ ad.block = wr.heap.size := Nat.ne_of_lt hz
      have k5 : (K == 5) = false := by simpa using hK
      have s1 := store_of (QV.one xk 1 (by decide))
      have s2 := store_of (QV.one xk 2 (by decide))
      have s3 := store_of (QV.one xk 3 (by decide))
      have s4 := store_of (QV.one xk 4 (by decide))
      have s5 := store_of (QV.one xk 5 (by decide))
      have s6 := store_of (QV.one xk 6 (by decide))
      have hy0 : xk.cell 0 = .int .i64 K := by rw [QV.cell0, hkk]
      generalize hy1 : xk.cell 1 = y1 at x1 s1
      generalize hy2 : xk.cell 2 = y2 at x2 s2
      generalize hy3 : xk.cell 3 = y3 at x3 s3
      generalize hy4 : xk.cell 4 = y4 at x4 s4
      generalize hy5 : xk.cell 5 = y5 at x5 s5
      generalize hy6 : xk.cell 6 = y6 at x6 s6
      obtain ⟨p, c2, rfl, HP0⟩ := HI.out.shape
      have HP := Aside0.mk HP0
      clear HP0
      go_wp2_with fail
      go_quiet ((fail))
      have hW1b : Below wr.heap.size wr ((wr.alloc (Obj.cells #[Value.int IntKind.i64 K, y1, y2, y3, y4, y5, y6] 39)).drewN nq) := pw_below_drewN ((Below.refl _ _).alloc (Nat.le_refl _) _) nq
      have HW1s : Aside0 (((wr.alloc (Obj.cells #[Value.int IntKind.i64 K, y1, y2, y3, y4, y5, y6] 39)).drewN nq).heap.size = wr.heap.size + 1) := ⟨by simp⟩
      have HW1v : Aside0 (QV.Lies ((wr.alloc (Obj.cells #[Value.int IntKind.i64 K, y1, y2, y3, y4, y5, y6] 39)).drewN nq) ⟨wr.heap.size, 0, none⟩ xk) := ⟨QV.Lies.of7 (by rw [hy0]; simp) (by rw [hy1]; simp) (by rw [hy2]; simp) (by rw [hy3]; simp) (by rw [hy4]; simp) (by rw [hy5]; simp) (by rw [hy6]; simp)⟩
      clear x0 x1 x2 x3 x4 x5 x6 z0 hg hg1 hz hz1 HLx
      generalize (wr.alloc (Obj.cells #[Value.int IntKind.i64 K, y1, y2, y3, y4, y5, y6] 39)).drewN nq = W1 at hW1b HW1s HW1v
      have ho1 : W1.cell? ⟨w.heap.size + 1, 0, none⟩ = some (.slice p vs.length c2) := (HI.out.mono hW1b).outCell
      have HW1 := Aside0.mk hW1b
      clear hW1b
      go_wp2_with (go_at_call 63; refine (search_set w w.heap.size vs xk (by omega) _ wr.heap.size wr _ HI.out HW1.out (fun x hx => (HVO.out x hx).below (HI.out.below.trans (HW1.out.mono HI.out.below.size))) (HOX.out.below (HI.out.below.trans (HW1.out.mono HI.out.below.size))) HW1v.out).mono ?_; rintro e W2 ⟨rfl, hb2⟩; have HW2 := Aside0.mk (HW1.out.trans (hb2.mono (by rw [HW1s.out]; omega))); have HW2v := Aside0.mk (HW1v.out.below hb2); clear hb2)
      have hpl := placeOf_le vs xk
      have HSD : Aside0 (setIns vs xk = match vs[placeOf vs xk]? with
        | some x => if x.cmp xk == 0 then vs else vs.take (placeOf vs xk) ++ [xk] ++ vs.drop (placeOf vs xk)
        | none => vs.take (placeOf vs xk) ++ [xk] ++ vs.drop (placeOf vs xk)) := ⟨rfl⟩
      generalize placeOf vs xk = pl at hpl HSD
      have ho2 : W2.cell? ⟨w.heap.size + 1, 0, none⟩ = some (.slice p vs.length c2) := (HI.out.mono HW2.out).outCell
      by_cases hend : pl = vs.length
      · have HS : Aside0 (setIns vs xk = vs.take pl ++ [xk] ++ vs.drop pl) := ⟨by rw [HSD.out, List.getElem?_eq_none (by omega)]⟩
        clear HSD
        subst hend
        have he0 : ((vs.length : Int) == (vs.length : Int)) = true := by simp
        go_quiet ((fail))
        have hb3 : Below wr.heap.size wr (W2.drewN nq) := pw_below_drewN HW2.out nq
        have hv3 : QV.Lies (W2.drewN nq) ⟨wr.heap.size, 0, none⟩ xk := HW2v.out.below (pw_below_drewN (Below.refl _ _) nq)
        clear ho1 ho2
        generalize W2.drewN nq = W3 at hb3 hv3
        have HW3 : Aside0 (Below wr.heap.size wr W3) := ⟨hb3⟩
        have HW3v : Aside0 (QV.Lies W3 ⟨wr.heap.size, 0, none⟩ xk) := ⟨hv3⟩
        have hw3s : wr.heap.size ≤ W3.heap.size := hb3.size
        clear hb3 hv3
        have ho3 : W3.cell? ⟨w.heap.size + 1, 0, none⟩ = some (.slice p vs.length c2) := (HI.out.mono HW3.out).outCell
        have v0 : W3.cell? ⟨wr.heap.size, 0, none⟩ = some (.int .i64 K) := by have := HW3v.out.at 0 (by decide); rwa [QV.cell0, hkk] at this
        have v1 := HW3v.out.at 1 (by decide)
        have v2 := HW3v.out.at 2 (by decide)
        have v3 := HW3v.out.at 3 (by decide)
        have v4 := HW3v.out.at 4 (by decide)
        have v5 := HW3v.out.at 5 (by decide)
        have v6 := HW3v.out.at 6 (by decide)
        rw [hy1] at v1
        rw [hy2] at v2
        rw [hy3] at v3
        rw [hy4] at v4
        rw [hy5] at v5
        rw [hy6] at v6
        rw [Nat.zero_add] at v1 v2 v3 v4 v5 v6
        go_wp2_with (go_at_call 66; refine (insert_set HI.out _ (by repeat (first | exact HW3.out | apply below_alloc | apply pw_below_drewN | apply below_drew1)) (by omega) vs.length hpl xk W3.heap.size 1 hw3s _ (blk_new _ _) (QV.Lies.of7 (by rw [hy0]; simp) (by rw [hy1]; simp) (by rw [hy2]; simp) (by rw [hy3]; simp) (by rw [hy4]; simp) (by rw [hy5]; simp) (by rw [hy6]; simp))).mono ?_; rintro e W4 ⟨v', rfl, hpre⟩; obtain ⟨q, n3, c3, rfl⟩ := hpre.shape; have q2 := hpre.outCell; have q3 := hpre.outFrozen; have HPR := Aside0.mk hpre; clear hpre)
        go_roundw
        case rel => exact ⟨k + 1, by first | rfl | (simp; done) | (simp; omega), by omega, _, ⟨by rw [HST.out, HS.out]; exact HPR.out.store⟩⟩
        case measure => simp; omega
      · have hpl2 : pl < vs.length := by omega
        obtain ⟨x', hx'⟩ : ∃ x', vs[pl]? = some x' := ⟨_, List.getElem?_eq_getElem hpl2⟩
        have hkx : x'.kind = K := HVK.out x' (List.mem_of_getElem? hx')
        obtain ⟨g2, rfl, hlx⟩ := HP.out pl x' hx'
        have HL2 : Aside0 (QV.Lies W2 ⟨g2, pl * 7, none⟩ x') := ⟨hlx.below HW2.out⟩
        clear hlx
        have he0 : ((pl : Int) == (vs.length : Int)) = false := by simp; omega
        have p4 : (0 ≤ (pl : Int)) = True := eq_true (by omega)
        have p5 : ((pl : Int) < (vs.length : Int)) = True := eq_true (by omega)
        have e0 : W2.cell? ⟨g2, pl * 7, none⟩ = some (.int .i64 K) := by have := HL2.out.at 0 (by decide); rwa [QV.cell0, hkx] at this
        have e1 := HL2.out.at 1 (by decide)
        have e2 := HL2.out.at 2 (by decide)
        have e3 := HL2.out.at 3 (by decide)
        have e4 := HL2.out.at 4 (by decide)
        have e5 := HL2.out.at 5 (by decide)
        have e6 := HL2.out.at 6 (by decide)
        have v0 : W2.cell? ⟨wr.heap.size, 0, none⟩ = some (.int .i64 K) := by have := HW2v.out.at 0 (by decide); rwa [QV.cell0, hkk] at this
        have v1 := HW2v.out.at 1 (by decide)
        have v2 := HW2v.out.at 2 (by decide)
        have v3 := HW2v.out.at 3 (by decide)
        have v4 := HW2v.out.at 4 (by decide)
        have v5 := HW2v.out.at 5 (by decide)
        have v6 := HW2v.out.at 6 (by decide)
        rw [hy1] at v1
        rw [hy2] at v2
        rw [hy3] at v3
        rw [hy4] at v4
        rw [hy5] at v5
        rw [hy6] at v6
        rw [Nat.zero_add] at v1 v2 v3 v4 v5 v6
        have hsm := fun W (hW : Below w.heap.size w W) => same_qv x' xk W ((HVO.out x' (List.mem_of_getElem? hx')).below hW) (HOX.out.below hW)
        unfold QV.arr at hsm
        rw [hy0, hy1, hy2, hy3, hy4, hy5, hy6, show x'.cell 0 = .int .i64 K by rw [QV.cell0, hkx]] at hsm
        generalize x'.cell 1 = a1 at e1 hsm
        generalize x'.cell 2 = a2 at e2 hsm
        generalize x'.cell 3 = a3 at e3 hsm
        generalize x'.cell 4 = a4 at e4 hsm
        generalize x'.cell 5 = a5 at e5 hsm
        generalize x'.cell 6 = a6 at e6 hsm
        rw [hx'] at HSD
        have HSD2 : Aside0 (setIns vs xk = if x'.cmp xk == 0 then vs else vs.take pl ++ [xk] ++ vs.drop pl) := ⟨HSD.out⟩
        clear HSD ho1
        generalize (x'.cmp xk == 0) = cb at hsm HSD2
        have hb2 := HW2.out
        cases cb
        · go_region_held3 (fun W => W.cell? ⟨g2, pl * 7, none⟩ = some (Value.int .i64 K) ∧ W.cell? ⟨g2, pl * 7 + 1, none⟩ = some a1 ∧ W.cell? ⟨g2, pl * 7 + 2, none⟩ = some a2 ∧ W.cell? ⟨g2, pl * 7 + 3, none⟩ = some a3 ∧ W.cell? ⟨g2, pl * 7 + 4, none⟩ = some a4 ∧ W.cell? ⟨g2, pl * 7 + 5, none⟩ = some a5 ∧ W.cell? ⟨g2, pl * 7 + 6, none⟩ = some a6 ∧ W.cell? ⟨wr.heap.size, 0, none⟩ = some (Value.int .i64 K) ∧ W.cell? ⟨wr.heap.size, 1, none⟩ = some y1 ∧ W.cell? ⟨wr.heap.size, 2, none⟩ = some y2 ∧ W.cell? ⟨wr.heap.size, 3, none⟩ = some y3 ∧ W.cell? ⟨wr.heap.size, 4, none⟩ = some y4 ∧ W.cell? ⟨wr.heap.size, 5, none⟩ = some y5 ∧ W.cell? ⟨wr.heap.size, 6, none⟩ = some y6 ∧ W.cell? ⟨w.heap.size + 1, 0, none⟩ = some (.slice (some ⟨g2, 0, none⟩) vs.length c2) ∧ Below wr.heap.size wr W)
            ((first | (go_split_ands; refine ⟨?_, ?_, ?_, ?_, ?_, ?_, ?_, ?_, ?_, ?_, ?_, ?_, ?_, ?_, ?_, ?_⟩ <;> first | assumption | (apply below_drew1; assumption) | (simp; assumption) | exact (hb.cell (World.block_lt_of_cell? _ _ (by assumption))).trans (by assumption) | exact below_step (by assumption) hb) | (refine ⟨?_, ?_, ?_, ?_, ?_, ?_, ?_, ?_, ?_, ?_, ?_, ?_, ?_, ?_, ?_, ?_⟩ <;> first | assumption | (apply below_drew1; assumption) | (simp; assumption))))
            ((go_at_call 53; refine (hsm _ (by first | exact HI.out.below.trans (Below.mono (by assumption) HI.out.below.size) | exact HI.out.below.trans (Below.mono (by first | assumption | (apply below_drew1; assumption)) HI.out.below.size))).mono ?_; rintro e w' ⟨rfl, hb⟩))
          go_split_ands
          have HS : Aside0 (setIns vs xk = vs.take pl ++ [xk] ++ vs.drop pl) := ⟨HSD2.out⟩
          clear HSD2 e0 e1 e2 e3 e4 e5 e6 v0 v1 v2 v3 v4 v5 v6 ho2 hsm
          have hb3 : Below wr.heap.size wr w' := by assumption
          have hv3 : QV.Lies w' ⟨wr.heap.size, 0, none⟩ xk := QV.Lies.of7 (by rw [hy0]; assumption) (by rw [hy1]; assumption) (by rw [hy2]; assumption) (by rw [hy3]; assumption) (by rw [hy4]; assumption) (by rw [hy5]; assumption) (by rw [hy6]; assumption)
          have HW3 : Aside0 (Below wr.heap.size wr w') := ⟨hb3⟩
          have HW3v : Aside0 (QV.Lies w' ⟨wr.heap.size, 0, none⟩ xk) := ⟨hv3⟩
          have hw3s : wr.heap.size ≤ w'.heap.size := hb3.size
          clear hb3 hv3
          have ho3 : w'.cell? ⟨w.heap.size + 1, 0, none⟩ = some (.slice (some ⟨g2, 0, none⟩) vs.length c2) := (HI.out.mono HW3.out).outCell
          have v0 : w'.cell? ⟨wr.heap.size, 0, none⟩ = some (.int .i64 K) := by have := HW3v.out.at 0 (by decide); rwa [QV.cell0, hkk] at this
          have v1 := HW3v.out.at 1 (by decide)
          have v2 := HW3v.out.at 2 (by decide)
          have v3 := HW3v.out.at 3 (by decide)
          have v4 := HW3v.out.at 4 (by decide)
          have v5 := HW3v.out.at 5 (by decide)
          have v6 := HW3v.out.at 6 (by decide)
          rw [hy1] at v1
          rw [hy2] at v2
          rw [hy3] at v3
          rw [hy4] at v4
          rw [hy5] at v5
          rw [hy6] at v6
          rw [Nat.zero_add] at v1 v2 v3 v4 v5 v6
          go_wp2_with (go_at_call 66; refine (insert_set HI.out _ (by repeat (first | exact HW3.out | apply below_alloc | apply pw_below_drewN | apply below_drew1)) (by omega) pl hpl xk w'.heap.size 1 hw3s _ (blk_new _ _) (QV.Lies.of7 (by rw [hy0]; simp) (by rw [hy1]; simp) (by rw [hy2]; simp) (by rw [hy3]; simp) (by rw [hy4]; simp) (by rw [hy5]; simp) (by rw [hy6]; simp))).mono ?_; rintro e W4 ⟨v', rfl, hpre⟩; obtain ⟨q, n3, c3, rfl⟩ := hpre.shape; have q2 := hpre.outCell; have q3 := hpre.outFrozen; have HPR := Aside0.mk hpre; clear hpre)
          go_roundw
          case rel => exact ⟨k + 1, by first | rfl | (simp; done) | (simp; omega), by omega, _, ⟨by rw [HST.out, HS.out]; exact HPR.out.store⟩⟩
          case measure => simp; omega
        · go_region_held3 (fun W => W.cell? ⟨g2, pl * 7, none⟩ = some (Value.int .i64 K) ∧ W.cell? ⟨g2, pl * 7 + 1, none⟩ = some a1 ∧ W.cell? ⟨g2, pl * 7 + 2, none⟩ = some a2 ∧ W.cell? ⟨g2, pl * 7 + 3, none⟩ = some a3 ∧ W.cell? ⟨g2, pl * 7 + 4, none⟩ = some a4 ∧ W.cell? ⟨g2, pl * 7 + 5, none⟩ = some a5 ∧ W.cell? ⟨g2, pl * 7 + 6, none⟩ = some a6 ∧ W.cell? ⟨wr.heap.size, 0, none⟩ = some (Value.int .i64 K) ∧ W.cell? ⟨wr.heap.size, 1, none⟩ = some y1 ∧ W.cell? ⟨wr.heap.size, 2, none⟩ = some y2 ∧ W.cell? ⟨wr.heap.size, 3, none⟩ = some y3 ∧ W.cell? ⟨wr.heap.size, 4, none⟩ = some y4 ∧ W.cell? ⟨wr.heap.size, 5, none⟩ = some y5 ∧ W.cell? ⟨wr.heap.size, 6, none⟩ = some y6 ∧ W.cell? ⟨w.heap.size + 1, 0, none⟩ = some (.slice (some ⟨g2, 0, none⟩) vs.length c2) ∧ Below wr.heap.size wr W)
            ((first | (go_split_ands; refine ⟨?_, ?_, ?_, ?_, ?_, ?_, ?_, ?_, ?_, ?_, ?_, ?_, ?_, ?_, ?_, ?_⟩ <;> first | assumption | (apply below_drew1; assumption) | (simp; assumption) | exact (hb.cell (World.block_lt_of_cell? _ _ (by assumption))).trans (by assumption) | exact below_step (by assumption) hb) | (refine ⟨?_, ?_, ?_, ?_, ?_, ?_, ?_, ?_, ?_, ?_, ?_, ?_, ?_, ?_, ?_, ?_⟩ <;> first | assumption | (apply below_drew1; assumption) | (simp; assumption))))
            ((go_at_call 53; refine (hsm _ (by first | exact HI.out.below.trans (Below.mono (by assumption) HI.out.below.size) | exact HI.out.below.trans (Below.mono (by first | assumption | (apply below_drew1; assumption)) HI.out.below.size))).mono ?_; rintro e w' ⟨rfl, hb⟩))
          go_split_ands
          have HS : Aside0 (setIns vs xk = vs) := ⟨HSD2.out⟩
          have hb3 : Below wr.heap.size wr w' := by assumption
          have HW3 : Aside0 (Below wr.heap.size wr w') := ⟨hb3⟩
          clear HSD2 e0 e1 e2 e3 e4 e5 e6 v0 v1 v2 v3 v4 v5 v6 ho2 hsm
          go_wp2
          go_roundw
          case rel => exact ⟨k + 1, by first | rfl | (simp; done) | (simp; omega), by omega, _, ⟨by rw [HST.out, HS.out]; exact HI.out.mono HW3.out⟩⟩
          case measure => simp; omega
    · obtain rfl : k = m := by omega
      clear hkm
      by_cases hlt : k < l.length
      · obtain ⟨ad, rfl, hlx⟩ := HX.out k _ (List.getElem?_eq_getElem hlt)
        have hlt0 : decide ((k : Int) < (l.length : Int)) = true := decide_eq_true (by omega)
        have p0 : (0 ≤ (k : Int)) = True := eq_true (by omega)
        have p1 : ((k : Int) < (l.length : Int)) = True := eq_true (by omega)
        have p2 : ((0 : Int) < (l.length : Int)) = True := eq_true (by omega)
        have p3 : (0 < l.length) = True := eq_true (by omega)
        have HLx : Aside0 (∀ j, j < 7 → wr.cell? (ad.add (k * 7 + j)) = some ((l[k]'hlt).cell j)) := ⟨fun j hj => (HI.out.below.cell (World.block_lt_of_cell? _ _ (hlx j hj))).trans (hlx j hj)⟩
        have hb0 := HBAD.out _ (List.getElem?_eq_getElem hlt)
        have zz : ∃ y0, wr.cell? ad = some (.int .i64 y0) ∧ (0 < k → y0 = K) := by
          have h0 : 0 < l.length := by omega
          obtain ⟨g', hg', hl0⟩ := HX.out 0 _ (List.getElem?_eq_getElem h0)
          obtain rfl : ad = g' := by injection hg'
          have h1 := (HI.out.below.cell (World.block_lt_of_cell? _ _ (hl0 0 (by decide)))).trans (hl0 0 (by decide))
          rw [Nat.zero_mul, Nat.zero_add] at h1
          refine ⟨l[0].kind, by rw [QV.cell0] at h1; simpa [Addr.add] using h1, fun hk0 => HK.out _ (List.mem_take_iff_getElem.2 ⟨0, by omega, rfl⟩)⟩
        obtain ⟨y0, z0, hy0⟩ := zz
        clear hlx
        generalize l[k]'hlt = xk at HLx hb0
        obtain ⟨x0, x1, x2, x3, x4, x5, x6⟩ := QV.at_row HLx.out
        have hkc : xk.cell 0 = .int .i64 xk.kind := QV.cell0 xk
        rw [hkc] at x0
        have hg : (ad.add (k * 7)).block < wr.heap.size := World.block_lt_of_cell? _ _ x0
        have hg1 : ¬ (ad.add (k * 7)).block = wr.heap.size := Nat.ne_of_lt hg
        have hz : ad.block < wr.heap.size := World.block_lt_of_cell? _ _ z0
        have hz1 : ¬ ad.block = wr.heap.size := Nat.ne_of_lt hz
        have s1 := store_of (QV.one xk 1 (by decide))
        have s2 := store_of (QV.one xk 2 (by decide))
        have s3 := store_of (QV.one xk 3 (by decide))
        have s4 := store_of (QV.one xk 4 (by decide))
        have s5 := store_of (QV.one xk 5 (by decide))
        have s6 := store_of (QV.one xk 6 (by decide))
        generalize xk.kind = kx at x0 hb0
        generalize xk.cell 1 = y1 at x1 s1
        generalize xk.cell 2 = y2 at x2 s2
        generalize xk.cell 3 = y3 at x3 s3
        generalize xk.cell 4 = y4 at x4 s4
        generalize xk.cell 5 = y5 at x5 s5
        generalize xk.cell 6 = y6 at x6 s6
        have hr := HI.out.res
        have hws : w.heap.size < wr.heap.size := lt_of_heap hr
        have HR := Aside0.mk hr
        clear hr HLx HX HK HOK
        by_cases hk5 : kx = 5
        · have k5 : (kx == 5) = true := by simpa using hk5
          clear hb0
          subst hk5
          generalize (l.take k).foldl setIns [] = vs at HI ⊢
          go_wp2_with fail
          go_quiet ((fail))
          have HIW : Aside0 (SInv w w.heap.size vs outv ((wr.alloc (Obj.cells #[Value.int IntKind.i64 5, y1, y2, y3, y4, y5, y6] 39)).drewN nq)) := ⟨HI.out.mono (pw_below_drewN ((Below.refl _ _).alloc (Nat.le_refl _) _) nq)⟩
          clear x0 x1 x2 x3 x4 x5 x6 z0 hg hg1 hz hz1
          generalize (wr.alloc (Obj.cells #[Value.int IntKind.i64 5, y1, y2, y3, y4, y5, y6] 39)).drewN nq = W1 at HIW ⊢
          have hr := HIW.out.res
          have r0 : W1.cell? ⟨w.heap.size, 0, none⟩ = some (.int .i64 0) := by unfold World.cell?; rw [hr]; rfl
          have r1 : W1.cell? ⟨w.heap.size, 1, none⟩ = some (.bool false) := by unfold World.cell?; rw [hr]; rfl
          have r2 : W1.cell? ⟨w.heap.size, 2, none⟩ = some (.int .i64 0) := by unfold World.cell?; rw [hr]; rfl
          have r3 : W1.cell? ⟨w.heap.size, 3, none⟩ = some (.string ⟨#[]⟩) := by unfold World.cell?; rw [hr]; rfl
          have r4 : W1.cell? ⟨w.heap.size, 4, none⟩ = some (.string ⟨#[]⟩) := by unfold World.cell?; rw [hr]; rfl
          have r5 : W1.cell? ⟨w.heap.size, 5, none⟩ = some (.string ⟨#[]⟩) := by unfold World.cell?; rw [hr]; rfl
          have r6 : W1.cell? ⟨w.heap.size, 6, none⟩ = some (.slice none 0 0) := by unfold World.cell?; rw [hr]; rfl
          have f0 : ∀ o, W1.frozen? ⟨w.heap.size, o, none⟩ = false := by intro o; unfold World.frozen?; rw [hr]; simp
          have hws1 : w.heap.size < W1.heap.size := lt_of_heap hr
          clear hr
          go_wp2
          (try simp only [Exit.inBlock, Exit.then])
          have hd := HIW.out.done (.int .i64 0) (.bool false) (.int .i64 0) (.string ⟨#[]⟩) (.string ⟨#[]⟩) (.string ⟨#[]⟩) (.slice none 0 0)
          simp only [World.setCells] at hd
          refine bodyPost_ret (results_row_tmp rfl _ _ w.heap.size 39 _ (0, 0) _ rfl hd.1 Tryz.underlying39 rfl (by kernel_rfl)) rfl ?_
          refine ⟨hd.2.1, ?_⟩
          rw [if_pos hlt]
          rfl
        · have k5 : (kx == 5) = false := by simpa using hk5
          have k6 : (kx != y0) = true := by rcases hb0 with h | ⟨h, h2⟩; exact absurd h hk5; rw [hy0 h]; exact bne_iff_ne.mpr h2
          clear hb0 hk5 hy0
          generalize (l.take k).foldl setIns [] = vs at HI ⊢
          go_wp2_with fail
          go_quiet ((fail))
          have HIW : Aside0 (SInv w w.heap.size vs outv ((wr.alloc (Obj.cells #[Value.int IntKind.i64 kx, y1, y2, y3, y4, y5, y6] 39)).drewN nq)) := ⟨HI.out.mono (pw_below_drewN ((Below.refl _ _).alloc (Nat.le_refl _) _) nq)⟩
          clear x0 x1 x2 x3 x4 x5 x6 z0 hg hg1 hz hz1
          generalize (wr.alloc (Obj.cells #[Value.int IntKind.i64 kx, y1, y2, y3, y4, y5, y6] 39)).drewN nq = W1 at HIW ⊢
          have hr := HIW.out.res
          have r0 : W1.cell? ⟨w.heap.size, 0, none⟩ = some (.int .i64 0) := by unfold World.cell?; rw [hr]; rfl
          have r1 : W1.cell? ⟨w.heap.size, 1, none⟩ = some (.bool false) := by unfold World.cell?; rw [hr]; rfl
          have r2 : W1.cell? ⟨w.heap.size, 2, none⟩ = some (.int .i64 0) := by unfold World.cell?; rw [hr]; rfl
          have r3 : W1.cell? ⟨w.heap.size, 3, none⟩ = some (.string ⟨#[]⟩) := by unfold World.cell?; rw [hr]; rfl
          have r4 : W1.cell? ⟨w.heap.size, 4, none⟩ = some (.string ⟨#[]⟩) := by unfold World.cell?; rw [hr]; rfl
          have r5 : W1.cell? ⟨w.heap.size, 5, none⟩ = some (.string ⟨#[]⟩) := by unfold World.cell?; rw [hr]; rfl
          have r6 : W1.cell? ⟨w.heap.size, 6, none⟩ = some (.slice none 0 0) := by unfold World.cell?; rw [hr]; rfl
          have f0 : ∀ o, W1.frozen? ⟨w.heap.size, o, none⟩ = false := by intro o; unfold World.frozen?; rw [hr]; simp
          have hws1 : w.heap.size < W1.heap.size := lt_of_heap hr
          clear hr
          go_wp2
          (try simp only [Exit.inBlock, Exit.then])
          have hd := HIW.out.done (.int .i64 0) (.bool false) (.int .i64 0) (.string ⟨#[]⟩) (.string ⟨#[]⟩) (.string ⟨#[]⟩) (.slice none 0 0)
          simp only [World.setCells] at hd
          refine bodyPost_ret (results_row_tmp rfl _ _ w.heap.size 39 _ (0, 0) _ rfl hd.1 Tryz.underlying39 rfl (by kernel_rfl)) rfl ?_
          refine ⟨hd.2.1, ?_⟩
          rw [if_pos hlt]
          rfl
      · have hlt0 : decide ((k : Int) < (l.length : Int)) = false := decide_eq_false (by omega)
        have hke : k = l.length := by omega
        have HI2 := HI
        generalize hvs : (l.take k).foldl setIns [] = vs at HI2
        obtain ⟨p, c2, rfl, _⟩ := HI2.out.shape
        have ho : wr.cell? ⟨w.heap.size + 1, 0, none⟩ = some (.slice p vs.length c2) := HI2.out.outCell
        have hr := HI2.out.res
        have r0 : wr.cell? ⟨w.heap.size, 0, none⟩ = some (.int .i64 0) := by unfold World.cell?; rw [hr]; rfl
        have r1 : wr.cell? ⟨w.heap.size, 1, none⟩ = some (.bool false) := by unfold World.cell?; rw [hr]; rfl
        have r2 : wr.cell? ⟨w.heap.size, 2, none⟩ = some (.int .i64 0) := by unfold World.cell?; rw [hr]; rfl
        have r3 : wr.cell? ⟨w.heap.size, 3, none⟩ = some (.string ⟨#[]⟩) := by unfold World.cell?; rw [hr]; rfl
        have r4 : wr.cell? ⟨w.heap.size, 4, none⟩ = some (.string ⟨#[]⟩) := by unfold World.cell?; rw [hr]; rfl
        have r5 : wr.cell? ⟨w.heap.size, 5, none⟩ = some (.string ⟨#[]⟩) := by unfold World.cell?; rw [hr]; rfl
        have r6 : wr.cell? ⟨w.heap.size, 6, none⟩ = some (.slice none 0 0) := by unfold World.cell?; rw [hr]; rfl
        have f0 : ∀ o, wr.frozen? ⟨w.heap.size, o, none⟩ = false := by intro o; unfold World.frozen?; rw [hr]; simp
        have hws : w.heap.size < wr.heap.size := lt_of_heap hr
        clear hr
        by_cases h8 : vs.length ≤ 8
        · have h80 : decide (8 < (vs.length : Int)) = false := decide_eq_false (by omega)
          go_wp2
          (try simp only [Exit.inBlock, Exit.then])
          have hd := HI2.out.done (.int .i64 5) (.bool false) (.int .i64 0) (.string ⟨#[]⟩) (.string ⟨#[]⟩) (.string ⟨#[]⟩) (.slice p vs.length c2)
          simp only [World.setCells] at hd
          refine bodyPost_ret (results_row_tmp rfl _ _ w.heap.size 39 _ (0, 0) _ rfl hd.1 Tryz.underlying39 rfl (by kernel_rfl)) rfl ?_
          show SetEnds w l.length k ((l.take k).foldl setIns []) _ _
          rw [hvs]
          refine ⟨hd.2.1, ?_⟩
          rw [if_neg (show ¬ k < l.length by omega)]
          refine ⟨_, hd.2.2, ?_⟩
          rw [if_pos h8, if_pos h8, if_pos h8]
          rfl
        · have h80 : decide (8 < (vs.length : Int)) = true := decide_eq_true (by omega)
          go_wp2
          (try simp only [Exit.inBlock, Exit.then])
          have hd := HI2.out.done (.int .i64 0) (.bool false) (.int .i64 0) (.string ⟨#[]⟩) (.string ⟨#[]⟩) (.string ⟨#[]⟩) (.slice none 0 0)
          simp only [World.setCells] at hd
          refine bodyPost_ret (results_row_tmp rfl _ _ w.heap.size 39 _ (0, 0) _ rfl hd.1 Tryz.underlying39 rfl (by kernel_rfl)) rfl ?_
          show SetEnds w l.length k ((l.take k).foldl setIns []) _ _
          rw [hvs]
          refine ⟨hd.2.1, ?_⟩
          rw [if_neg (show ¬ k < l.length by omega)]
          refine ⟨_, hd.2.2, ?_⟩
          rw [if_neg h8, if_neg h8, if_neg h8]
          rfl
theorem choose_list {α β : Type} (R : Nat → α → β → Prop) : ∀ (l : List β) (o : Nat), (∀ i b, l[i]? = some b → ∃ a, R (o + i) a b) → ∃ az : List α, az.length = l.length ∧ ∀ i a b, az[i]? = some a → l[i]? = some b → R (o + i) a b
  | [], _, _ => ⟨[], rfl, fun i a b h _ => by simp at h⟩
  | b :: l, o, h => by
    obtain ⟨a, ha⟩ := h 0 b rfl
    obtain ⟨az, h1, h2⟩ := choose_list R l (o + 1) (fun i c hc => by
      have := h (i + 1) c hc
      rwa [show o + (i + 1) = o + 1 + i by omega] at this)
    refine ⟨a :: az, by simp [h1], ?_⟩
    intro i x y hx hy
    cases i with
    | zero =>
      simp only [List.getElem?_cons_zero, Option.some.injEq] at hx hy
      subst hx hy
      exact ha
    | succ i =>
      simp only [List.getElem?_cons_succ] at hx hy
      have := h2 i x y hx hy
      rwa [show o + 1 + i = o + (i + 1) by omega] at this
/-- A row of values, laid open. -/
theorem rows_qv {w : World} {P : Nat → Prop} {A : Option Addr} {n : Nat} {xs : List S39} (h : Kd.F k39 w P A n xs) :
    ∃ l : List QV, l.map QV.v = xs ∧ (∀ x ∈ l, x.v.f5.length ≤ x.c ∧ Kd.F k39 w P x.A x.v.f5.length x.v.f5) ∧ ∀ i x, l[i]? = some x → ∃ ad, A = some ad ∧ ∀ j, j < 7 → w.cell? (ad.add (i * 7 + j)) = some (x.cell j) := by
  have hn := Kd.F_len h
  obtain ⟨l, h1, h2⟩ := choose_list (fun i (a : QV) (b : S39) => a.v = b ∧ (a.v.f5.length ≤ a.c ∧ Kd.F k39 w P a.A a.v.f5.length a.v.f5) ∧ ∃ ad, A = some ad ∧ ∀ j, j < 7 → w.cell? (ad.add (i * 7 + j)) = some (a.cell j)) xs 0 (by
    intro i b hb
    rw [Nat.zero_add]
    have hi : i < xs.length := (List.getElem?_eq_some_iff.1 hb).1
    obtain ⟨ad, c, e, hc, hK, hcl, _⟩ := Kd.F_get h z39 (i : Int) (by omega) (by omega)
    have hx : xs.getD (i : Int).toNat z39 = b := by rw [Int.toNat_natCast, List.getD_eq_getElem?_getD, hb]; rfl
    rw [hx] at hK
    rw [Int.toNat_natCast] at hcl
    obtain ⟨A6, c6, rfl, l6, g6⟩ := k39_openF hK
    refine ⟨⟨b, A6, c6⟩, rfl, ⟨l6, g6⟩, ad, e, ?_⟩
    intro j hj
    have h7 : j = 0 ∨ j = 1 ∨ j = 2 ∨ j = 3 ∨ j = 4 ∨ j = 5 ∨ j = 6 := by omega
    rcases h7 with rfl | rfl | rfl | rfl | rfl | rfl | rfl <;> exact hcl _ _ rfl)
  have h3 : ∀ i x, l[i]? = some x → ∃ b, xs[i]? = some b := fun i x hx => ⟨_, List.getElem?_eq_getElem (by rw [← h1]; exact (List.getElem?_eq_some_iff.1 hx).1)⟩
  refine ⟨l, ?_, ?_, ?_⟩
  · apply List.ext_getElem?
    intro i
    rw [List.getElem?_map]
    cases hl : l[i]? with
    | none =>
      have := List.getElem?_eq_none_iff.1 hl
      exact (List.getElem?_eq_none_iff.2 (by omega)).symm
    | some x =>
      obtain ⟨b, hb⟩ := h3 i x hl
      rw [hb]
      exact congrArg some (h2 i x b hl hb).1
  · intro x hx
    obtain ⟨i, hi⟩ := List.getElem?_of_mem hx
    obtain ⟨b, hb⟩ := h3 i x hi
    exact (h2 i x b hi hb).2.1
  · intro i x hx
    obtain ⟨b, hb⟩ := h3 i x hx
    have h4 := (h2 i x b hx hb).2.2
    rwa [Nat.zero_add] at h4
/-- A row of values, laid open. -/
theorem rows_qvC {w : World} {A : Option Addr} {n : Nat} {xs : List S39} (h : Kd.C k39 w A n xs) :
    ∃ l : List QV, l.map QV.v = xs ∧ (∀ x ∈ l, x.v.f5.length ≤ x.c ∧ Kd.C k39 w x.A x.v.f5.length x.v.f5) ∧ ∀ i x, l[i]? = some x → ∃ ad, A = some ad ∧ ∀ j, j < 7 → w.cell? (ad.add (i * 7 + j)) = some (x.cell j) := by
  have hn := Kd.C_len h
  obtain ⟨l, h1, h2⟩ := choose_list (fun i (a : QV) (b : S39) => a.v = b ∧ (a.v.f5.length ≤ a.c ∧ Kd.C k39 w a.A a.v.f5.length a.v.f5) ∧ ∃ ad, A = some ad ∧ ∀ j, j < 7 → w.cell? (ad.add (i * 7 + j)) = some (a.cell j)) xs 0 (by
    intro i b hb
    rw [Nat.zero_add]
    have hi : i < xs.length := (List.getElem?_eq_some_iff.1 hb).1
    obtain ⟨ad, c, e, hc, hK, hcl⟩ := Kd.C_get h z39 (i : Int) (by omega) (by omega)
    have hx : xs.getD (i : Int).toNat z39 = b := by rw [Int.toNat_natCast, List.getD_eq_getElem?_getD, hb]; rfl
    rw [hx] at hK
    rw [Int.toNat_natCast] at hcl
    obtain ⟨A6, c6, rfl, l6, g6⟩ := k39_open hK
    refine ⟨⟨b, A6, c6⟩, rfl, ⟨l6, g6⟩, ad, e, ?_⟩
    intro j hj
    have h7 : j = 0 ∨ j = 1 ∨ j = 2 ∨ j = 3 ∨ j = 4 ∨ j = 5 ∨ j = 6 := by omega
    rcases h7 with rfl | rfl | rfl | rfl | rfl | rfl | rfl <;> exact hcl _ _ rfl)
  have h3 : ∀ i x, l[i]? = some x → ∃ b, xs[i]? = some b := fun i x hx => ⟨_, List.getElem?_eq_getElem (by rw [← h1]; exact (List.getElem?_eq_some_iff.1 hx).1)⟩
  refine ⟨l, ?_, ?_, ?_⟩
  · apply List.ext_getElem?
    intro i
    rw [List.getElem?_map]
    cases hl : l[i]? with
    | none =>
      have := List.getElem?_eq_none_iff.1 hl
      exact (List.getElem?_eq_none_iff.2 (by omega)).symm
    | some x =>
      obtain ⟨b, hb⟩ := h3 i x hl
      rw [hb]
      exact congrArg some (h2 i x b hl hb).1
  · intro x hx
    obtain ⟨i, hi⟩ := List.getElem?_of_mem hx
    obtain ⟨b, hb⟩ := h3 i x hi
    exact (h2 i x b hi hb).2.1
  · intro i x hx
    obtain ⟨b, hb⟩ := h3 i x hx
    have h4 := (h2 i x b hx hb).2.2
    rwa [Nat.zero_add] at h4
theorem reps_qv (vs : List QV) : Reps (fun (x : QV) cs => cs = [x.cell 0, x.cell 1, x.cell 2, x.cell 3, x.cell 4, x.cell 5, x.cell 6]) 7 vs (flatQV vs) := by
  refine ⟨flatQV_length vs, fun j p hp => ?_⟩
  have hj : j < vs.length := (List.getElem?_eq_some_iff.1 hp).1
  rw [flatQV_drop, List.drop_eq_getElem_cons hj, (List.getElem?_eq_some_iff.1 hp).2]
  simp [flatQV]
/-- A row of one's own, of values that are only read. -/
theorem N_of_qv {w : World} {base b2 : Nat} {ok : Nat → Prop} {outv : Value} {vs : List QV} (hb : base ≤ b2) (hrow : w.ownsRow b2 39 7 outv vs.length (flatQV vs)) (hok : ∀ k, outv.ownBlock = some k → ok k)
    (hq : ∀ x ∈ vs, x.v.f5.length ≤ x.c ∧ Kd.F k39 w (fun k => ok k ∧ some k ≠ outv.ownBlock) x.A x.v.f5.length x.v.f5) : Kd.N k39 39 w base ok outv (vs.map QV.v) := by
  have hrow2 : w.ownsRow base 39 7 outv vs.length (flatQV vs) := by
    refine ⟨hrow.1, ?_⟩
    rcases hrow.2 with h3 | ⟨g, cap, cur, e1, e2, e3⟩
    · exact .inl h3
    · exact .inr ⟨g, cap, cur, e1, by omega, e3⟩
  refine ⟨hok, Kd.chunks 7 vs.length (flatQV vs), by rw [Kd.chunks_length, List.length_map], ⟨fun k hk => hk.symm, flatQV vs, by rw [Kd.chunks_length]; exact hrow2, Kd.reps_raw (reps_qv vs) (fun x c hp => ?_)⟩, fun j x c hx hc => ?_⟩
  · subst hp
    refine ⟨rfl, ?_⟩
    intro u hu
    simp only [List.mem_cons, List.not_mem_nil, or_false] at hu
    rcases hu with rfl | rfl | rfl | rfl | rfl | rfl | rfl
    · exact QV.one x 0 (by omega)
    · exact QV.one x 1 (by omega)
    · exact QV.one x 2 (by omega)
    · exact QV.one x 3 (by omega)
    · exact QV.one x 4 (by omega)
    · exact QV.one x 5 (by omega)
    · exact QV.one x 6 (by omega)
  · rw [List.getElem?_map] at hx
    obtain ⟨q, hq1, rfl⟩ := Option.map_eq_some_iff.1 hx
    have h1 := (reps_qv vs).2 j q hq1
    rw [Kd.chunks_get hc, h1]
    obtain ⟨g1, g2⟩ := hq q (List.mem_of_getElem? hq1)
    exact k39_mkF w _ q.v g1 g2
/-- The set of values, as value.Set puts it together. -/
def placeV (vs : List S39) (y : S39) : Nat := searchF (fun h => match vs[h]? with | some x => !decide (cmpV x y < 0) | none => false) vs.length 0 vs.length
def insV (vs : List S39) (y : S39) : List S39 :=
  match vs[placeV vs y]? with
  | some x => if cmpV x y == 0 then vs else vs.take (placeV vs y) ++ [y] ++ vs.drop (placeV vs y)
  | none => vs.take (placeV vs y) ++ [y] ++ vs.drop (placeV vs y)
def setV (l : List S39) : List S39 := l.foldl insV []
theorem placeOf_map (vs : List QV) (y : QV) : placeOf vs y = placeV (vs.map QV.v) y.v := by
  unfold placeOf placeV
  rw [List.length_map]
  congr 1
  funext h
  rw [List.getElem?_map]
  cases vs[h]? <;> rfl
theorem setIns_map (vs : List QV) (y : QV) : (setIns vs y).map QV.v = insV (vs.map QV.v) y.v := by
  unfold setIns insV
  rw [← placeOf_map, List.getElem?_map]
  cases h : vs[placeOf vs y]? with
  | none => simp [List.map_take, List.map_drop]
  | some x =>
    show List.map QV.v (if x.cmp y == 0 then vs else _) = if cmpV x.v y.v == 0 then _ else _
    unfold QV.cmp
    split <;> simp [List.map_take, List.map_drop]
theorem foldl_map : ∀ (l vs : List QV), (l.foldl setIns vs).map QV.v = (l.map QV.v).foldl insV (vs.map QV.v)
  | [], _ => rfl
  | y :: l, vs => by
    rw [List.foldl_cons, foldl_map l, setIns_map]
    rfl
/-- How many values ahead are of the first one's kind, and no sets. -/
def goodN (l : List S39) : Nat := if (l.headD z39).f0 = 5 then 0 else (l.takeWhile (fun x => x.f0 == (l.headD z39).f0)).length
theorem goodN_le (l : List S39) : goodN l ≤ l.length := by
  unfold goodN
  split
  · exact Nat.zero_le _
  · exact (List.takeWhile_prefix _).length_le
theorem takeWhile_bad {α : Type} (p : α → Bool) : ∀ (l : List α) (x : α), l[(l.takeWhile p).length]? = some x → p x = false
  | [], x, h => by simp at h
  | y :: l, x, h => by
    rw [List.takeWhile_cons] at h
    cases hp : p y with
    | true =>
      rw [hp] at h
      simp only [if_true, List.length_cons, List.getElem?_cons_succ] at h
      exact takeWhile_bad p l x h
    | false =>
      rw [hp] at h
      simp at h
      exact h ▸ hp
theorem takeWhile_take {α : Type} (p : α → Bool) (l : List α) : l.take (l.takeWhile p).length = l.takeWhile p := (List.prefix_iff_eq_take.1 (List.takeWhile_prefix p)).symm
theorem goodN_take (l : List S39) : ∀ x ∈ l.take (goodN l), x.f0 = (l.headD z39).f0 := by
  intro x hx
  unfold goodN at hx
  split at hx
  · simp at hx
  · rw [takeWhile_take] at hx
    exact beq_iff_eq.1 (List.all_eq_true.1 (List.all_takeWhile (p := fun x => x.f0 == (l.headD z39).f0) (l := l)) x hx)
theorem goodN_bad (l : List S39) (x : S39) (h : l[goodN l]? = some x) : x.f0 = 5 ∨ (0 < goodN l ∧ x.f0 ≠ (l.headD z39).f0) := by
  unfold goodN at h ⊢
  split at h
  · next h5 =>
    left
    cases l with
    | nil => simp at h
    | cons y l => simp at h; subst h; exact h5
  · next h5 =>
    rw [if_neg h5]
    right
    have hb := takeWhile_bad _ l x h
    refine ⟨?_, by simpa using hb⟩
    cases l with
    | nil => simp at h
    | cons y l => simp
def value_Set.f (l0 : List S39) : Option (Int × Bool × Int × ByteArray × ByteArray × ByteArray × (List S39) × Int) :=
  if l0.length ≤ 1000 then (if goodN l0 < l0.length then some (0, false, 0, (⟨#[]⟩ : ByteArray), (⟨#[]⟩ : ByteArray), (⟨#[]⟩ : ByteArray), ([] : List S39), 16) else if (setV l0).length ≤ 8 then some (5, false, 0, (⟨#[]⟩ : ByteArray), (⟨#[]⟩ : ByteArray), (⟨#[]⟩ : ByteArray), setV l0, 0) else some (0, false, 0, (⟨#[]⟩ : ByteArray), (⟨#[]⟩ : ByteArray), (⟨#[]⟩ : ByteArray), ([] : List S39), 4)) else none
theorem value_Set.calls_ (P0_ : Nat → Prop) (A0 : Option Addr) (c0 : Nat) (l0 : List S39) (r1 : Int) (r2 : Bool) (r3 : Int) (r4 : ByteArray) (r5 : ByteArray) (r6 : ByteArray) (r7 : List S39) (r8 : Int) (w : World) (hs0 : Kd.V k39 39 w w.heap.size (fun k_ => P0_ k_) (.slice A0 l0.length c0) l0) (h : value_Set.f l0 = some (r1, r2, r3, r4, r5, r6, r7, r8)) :
    Calls Tryz.prog 43 #[.slice A0 l0.length c0] w fun e w' => ∃ v6_ : Value, e = .returned (.tuple #[.agg #[.int .i64 r1, .bool r2, .int .i64 r3, .string r4, .string r5, .string r6, v6_], .int .i64 r8]) ∧ Kd.N k39 39 w' w.heap.size (fun k_ => (P0_ k_ ∨ w.heap.size ≤ k_)) v6_ r7 ∧ Below w.heap.size w w' := by
  unfold value_Set.f at h
  by_cases hn : l0.length ≤ 1000
  case neg => rw [if_neg hn] at h; cases h
  rw [if_pos hn] at h
  obtain ⟨l, rfl, hF, hl⟩ := rows_qv (Kd.V_F hs0)
  rw [List.length_map] at hn h ⊢
  have hd : ∀ x ∈ l.take (goodN (l.map QV.v)), x.kind = ((l.map QV.v).headD z39).f0 := fun x hx => goodN_take (l.map QV.v) x.v (by rw [← List.map_take]; exact List.mem_map_of_mem hx)
  have hbad : ∀ x, l[goodN (l.map QV.v)]? = some x → x.kind = 5 ∨ (0 < goodN (l.map QV.v) ∧ x.kind ≠ ((l.map QV.v).headD z39).f0) := fun x hx => goodN_bad (l.map QV.v) x.v (by rw [List.getElem?_map, hx]; rfl)
  have hle := goodN_le (l.map QV.v)
  rw [List.length_map] at hle
  have hK : ∃ K : Int, K ≠ 5 ∧ (∀ x ∈ l.take (goodN (l.map QV.v)), x.kind = K) ∧ ∀ x, l[goodN (l.map QV.v)]? = some x → x.kind = 5 ∨ (0 < goodN (l.map QV.v) ∧ x.kind ≠ K) := by
    by_cases h5 : ((l.map QV.v).headD z39).f0 = 5
    · have h0 : goodN (l.map QV.v) = 0 := by unfold goodN; rw [if_pos h5]
      rw [h0] at hbad ⊢
      exact ⟨0, by decide, by simp, fun x hx => by rcases hbad x hx with h | ⟨h, _⟩; exact .inl h; exact absurd h (Nat.lt_irrefl 0)⟩
    · exact ⟨_, h5, hd, hbad⟩
  obtain ⟨K, hK5, hk, hb⟩ := hK
  refine (set_walk K hK5 l (goodN (l.map QV.v)) hle hn hk hb A0 c0 w (fun x hx => ⟨(hF x hx).1, Kd.F_now (hF x hx).2⟩) hl).mono ?_
  rintro e w' ⟨hbel, hend⟩
  by_cases hm : goodN (l.map QV.v) < l.length
  · rw [if_pos hm] at h hend
    cases h
    exact ⟨_, hend, Kd.N_nil _ _ _ _ _, hbel⟩
  · rw [if_neg hm] at h hend
    have hml : goodN (l.map QV.v) = l.length := by omega
    obtain ⟨outv, hrow, he⟩ := hend
    rw [hml, List.take_length] at hrow he
    have hmap : (l.foldl setIns []).map QV.v = setV (l.map QV.v) := foldl_map l []
    have hlen : (setV (l.map QV.v)).length = (l.foldl setIns []).length := by rw [← hmap, List.length_map]
    rw [hlen] at h
    by_cases h8 : (l.foldl setIns []).length ≤ 8
    · rw [if_pos h8] at h
      rw [if_pos h8, if_pos h8, if_pos h8] at he
      cases h
      refine ⟨outv, he, ?_, hbel⟩
      rw [← hmap]
      have hown : ∀ k, outv.ownBlock = some k → w.heap.size + 2 ≤ k := by
        intro k hk
        rcases hrow.2 with ⟨rfl, _⟩ | ⟨g, cap, cur, rfl, h2, _⟩
        · simp [Value.ownBlock] at hk
        · simp [Value.ownBlock] at hk; omega
      refine N_of_qv (by omega) hrow (fun k hk => .inr (by have := hown k hk; omega)) (fun x hx => ?_)
      have hx2 := foldl_setIns_all (fun x => x.v.f5.length ≤ x.c ∧ Kd.F k39 w P0_ x.A x.v.f5.length x.v.f5) l [] (by simp) (fun x hx => hF x hx) x hx
      refine ⟨hx2.1, Kd.F_mono (Kd.F_old hx2.2 hbel) ?_⟩
      intro k hk
      refine ⟨.inl hk.1, fun e => ?_⟩
      have := hown k e.symm
      omega
    · rw [if_neg h8] at h
      rw [if_neg h8, if_neg h8, if_neg h8] at he
      cases h
      exact ⟨_, he, Kd.N_nil _ _ _ _ _, hbel⟩
set_option maxRecDepth 100000 in
set_option maxHeartbeats 4000000 in
/-- value.Holds' closure: is the element the value in the box. -/
theorem holds_closure (x y : QV) (bv : Nat) (w : World) (hxo : x.Ok w) (hyo : y.Ok w) (hy : QV.Lies w ⟨bv, 0, none⟩ y) :
    Calls Tryz.prog 73 #[.agg x.arr, .pointer (some ⟨bv, 0, none⟩)] w fun e w' => e = .returned (.bool (x.cmp y == 0)) ∧ Below w.heap.size w w' := by
  have hl := fun W (hW : Below w.heap.size w W) => same_qv x y W (hxo.below hW) (hyo.below hW)
  clear hxo hyo
  have y0 := hy.at 0 (by decide)
  have y1 := hy.at 1 (by decide)
  have y2 := hy.at 2 (by decide)
  have y3 := hy.at 3 (by decide)
  have y4 := hy.at 4 (by decide)
  have y5 := hy.at 5 (by decide)
  have y6 := hy.at 6 (by decide)
  rw [Nat.zero_add] at y0 y1 y2 y3 y4 y5 y6
  clear hy
  have s0 := store_of (QV.one x 0 (by decide))
  have s1 := store_of (QV.one x 1 (by decide))
  have s2 := store_of (QV.one x 2 (by decide))
  have s3 := store_of (QV.one x 3 (by decide))
  have s4 := store_of (QV.one x 4 (by decide))
  have s5 := store_of (QV.one x 5 (by decide))
  have s6 := store_of (QV.one x 6 (by decide))
  unfold QV.arr at hl ⊢
  generalize (x.cmp y == 0) = rr at hl ⊢
  generalize QV.cell 0 x = a0 at hl s0 ⊢
  generalize QV.cell 1 x = a1 at hl s1 ⊢
  generalize QV.cell 2 x = a2 at hl s2 ⊢
  generalize QV.cell 3 x = a3 at hl s3 ⊢
  generalize QV.cell 4 x = a4 at hl s4 ⊢
  generalize QV.cell 5 x = a5 at hl s5 ⊢
  generalize QV.cell 6 x = a6 at hl s6 ⊢
  generalize QV.cell 0 y = b0 at hl y0
  generalize QV.cell 1 y = b1 at hl y1
  generalize QV.cell 2 y = b2 at hl y2
  generalize QV.cell 3 y = b3 at hl y3
  generalize QV.cell 4 y = b4 at hl y4
  generalize QV.cell 5 y = b5 at hl y5
  generalize QV.cell 6 y = b6 at hl y6
  have hbv : bv < w.heap.size := World.block_lt_of_cell? _ _ y0
  have hbv1 : bv ≠ w.heap.size := Nat.ne_of_lt hbv
  have hbv2 : ¬ (bv = w.heap.size) := hbv1
  have HLL := Aside0.mk hl
  clear hl
  go_enter Tryz.func73, Tryz.ntmps73
  go_wp2_with (go_at_call 53; refine (HLL.out _ (by repeat (first | exact Below.refl _ _ | apply below_alloc | apply pw_below_drewN | apply below_drew1))).mono ?_; rintro e w' ⟨rfl, hb⟩; have HB : Aside0 (Below w.heap.size w w') := ⟨below_step (by repeat (first | exact Below.refl _ _ | apply below_alloc | apply pw_below_drewN | apply below_drew1)) hb⟩; clear hb)
  go_ret
  exact ⟨rfl, HB.out⟩
set_option maxRecDepth 100000 in
set_option maxHeartbeats 8000000 in
/-- slices.IndexFunc with that closure. -/
theorem holds_index (vs : List QV) (y : QV) (hn : vs.length ≤ 9223372036854775807) (p : Option Addr) (c bv : Nat) (w : World) (hk : ∀ x ∈ vs, x.Ok w) (hyo : y.Ok w) (hl : ∀ i x, vs[i]? = some x → ∃ ad, p = some ad ∧ ∀ j, j < 7 → w.cell? (ad.add (i * 7 + j)) = some (x.cell j)) (hy : QV.Lies w ⟨bv, 0, none⟩ y) :
    Calls Tryz.prog 85 #[.slice p vs.length c, .func (.func 73) #[] #[.pointer (some ⟨bv, 0, none⟩)]] w fun e w' => ∃ r : Int, e = .returned (.int .i64 r) ∧ decide (0 ≤ r) = vs.any (fun x => x.cmp y == 0) ∧ Below w.heap.size w w' := by
  have HX := Aside0.mk hl
  have HY := Aside0.mk hy
  have HK := Aside0.mk hk
  have HYO := Aside0.mk hyo
  have HB := Aside0.mk (Below.refl w.heap.size w)
  clear hl hy hk hyo
  go_enter Tryz.func85, Tryz.ntmps85
  go_wp2
  go_loopw [8] (fun v wr => ∃ k : Nat, v = .int .i64 (k : Int) ∧ k ≤ vs.length ∧ Aside0 ((vs.take k).any (fun x => x.cmp y == 0) = false) ∧ Aside0 (Below w.heap.size w wr)) (fun v _ => match v with | .int _ x => vs.length - x.toNat | _ => 0)
  case atStart => exact ⟨0, rfl, Nat.zero_le _, ⟨rfl⟩, HB⟩
  case round =>
    obtain ⟨k, rfl, hk, HA, HB⟩ := hrel
    by_cases hlt : k < vs.length
    · obtain ⟨ad, rfl, hlx⟩ := HX.out k _ (List.getElem?_eq_getElem hlt)
      have hlt0 : decide ((k : Int) < (vs.length : Int)) = true := decide_eq_true (by omega)
      have p0 : (0 ≤ (k : Int)) = True := eq_true (by omega)
      have p1 : ((k : Int) < (vs.length : Int)) = True := eq_true (by omega)
      have hcl := fun W (hWB : Below w.heap.size w W) hW => holds_closure (vs[k]'hlt) y bv W ((HK.out _ (List.getElem_mem hlt)).below hWB) (HYO.out.below hWB) hW
      have HST : Aside0 ((vs.take (k + 1)).any (fun x => x.cmp y == 0) = ((vs.take k).any (fun x => x.cmp y == 0) || ((vs[k]'hlt).cmp y == 0))) := ⟨by
        rw [List.take_add_one, List.getElem?_eq_getElem hlt, List.any_append]
        simp⟩
      have HIN : Aside0 (((vs[k]'hlt).cmp y == 0) = true → vs.any (fun x => x.cmp y == 0) = true) := ⟨fun h => List.any_eq_true.2 ⟨_, List.getElem_mem hlt, h⟩⟩
      have HLx : Aside0 (∀ j, j < 7 → wr.cell? (ad.add (k * 7 + j)) = some ((vs[k]'hlt).cell j)) := ⟨fun j hj => (HB.out.cell (World.block_lt_of_cell? _ _ (hlx j hj))).trans (hlx j hj)⟩
      clear hlx
      generalize vs[k]'hlt = xk at hcl HST HIN HLx
      obtain ⟨x0, x1, x2, x3, x4, x5, x6⟩ := QV.at_row HLx.out
      have hg : (ad.add (k * 7)).block < wr.heap.size := World.block_lt_of_cell? _ _ x0
      have hg1 : ¬ (ad.add (k * 7)).block = wr.heap.size := Nat.ne_of_lt hg
      unfold QV.arr at hcl
      have HYW := Aside0.mk (HY.out.below HB.out)
      generalize (xk.cmp y == 0) = cb at hcl HST HIN
      generalize QV.cell 0 xk = a0 at hcl x0
      generalize QV.cell 1 xk = a1 at hcl x1
      generalize QV.cell 2 xk = a2 at hcl x2
      generalize QV.cell 3 xk = a3 at hcl x3
      generalize QV.cell 4 xk = a4 at hcl x4
      generalize QV.cell 5 xk = a5 at hcl x5
      generalize QV.cell 6 xk = a6 at hcl x6
      cases cb
      · go_wp2_with (go_at_call 73; refine (hcl _ HB.out HYW.out).mono ?_; rintro e w' ⟨rfl, hb⟩; have HB2 : Aside0 (Below w.heap.size w w') := ⟨below_step (by repeat (first | exact HB.out | apply below_alloc | apply pw_below_drewN | apply below_drew1)) hb⟩; clear hb)
        go_roundw
        case rel => exact ⟨k + 1, by first | rfl | (simp; done) | (simp; omega), by omega, ⟨by rw [HST.out, HA.out]; rfl⟩, HB2⟩
        case measure => simp; omega
      · go_wp2_with (go_at_call 73; refine (hcl _ HB.out HYW.out).mono ?_; rintro e w' ⟨rfl, hb⟩; have HB2 : Aside0 (Below w.heap.size w w') := ⟨below_step (by repeat (first | exact HB.out | apply below_alloc | apply pw_below_drewN | apply below_drew1)) hb⟩; clear hb)
        go_ret
        exact ⟨_, rfl, by rw [HIN.out (by trivial)]; exact decide_eq_true (by omega), HB2.out⟩
    · have hlt0 : decide ((k : Int) < (vs.length : Int)) = false := decide_eq_false (by omega)
      have hke : k = vs.length := by omega
      subst hke
      go_wp2
      go_ret
      have ha := HA.out
      rw [List.take_length] at ha
      exact ⟨_, rfl, by rw [ha]; rfl, HB.out⟩
set_option maxRecDepth 100000 in
set_option maxHeartbeats 8000000 in
/-- slices.ContainsFunc with that closure. -/
theorem holds_contains (vs : List QV) (y : QV) (hn : vs.length ≤ 9223372036854775807) (p : Option Addr) (c bv : Nat) (w : World) (hk : ∀ x ∈ vs, x.Ok w) (hyo : y.Ok w) (hl : ∀ i x, vs[i]? = some x → ∃ ad, p = some ad ∧ ∀ j, j < 7 → w.cell? (ad.add (i * 7 + j)) = some (x.cell j)) (hy : QV.Lies w ⟨bv, 0, none⟩ y) :
    Calls Tryz.prog 72 #[.slice p vs.length c, .func (.func 73) #[] #[.pointer (some ⟨bv, 0, none⟩)]] w fun e w' => e = .returned (.bool (vs.any (fun x => x.cmp y == 0))) ∧ Below w.heap.size w w' := by
  have hi := holds_index vs y hn p c bv w hk hyo hl hy
  clear hl hy hk hyo
  go_enter Tryz.func72, Tryz.ntmps72
  go_wp2_with (go_at_call 85; refine hi.mono ?_; rintro e w' ⟨r, rfl, hr, hb⟩; have HB := Aside0.mk hb; have HR := Aside0.mk hr; clear hb hr)
  go_ret
  exact ⟨by rw [← HR.out]; rfl, HB.out⟩
set_option maxRecDepth 100000 in
set_option maxHeartbeats 8000000 in
/-- value.Holds of a set of plain values and one of their kind. -/
theorem holds_set (b : Bool) (n : Int) (s t i : ByteArray) (vs : List QV) (y : QV) (hn : vs.length ≤ 9223372036854775807) (p : Option Addr) (c : Nat) (w : World) (hk : ∀ x ∈ vs, x.Ok w) (hyo : y.Ok w) (hl : ∀ i x, vs[i]? = some x → ∃ ad, p = some ad ∧ ∀ j, j < 7 → w.cell? (ad.add (i * 7 + j)) = some (x.cell j)) :
    Calls Tryz.prog 52 #[.agg #[.int .i64 5, .bool b, .int .i64 n, .string s, .string t, .string i, .slice p vs.length c], .agg y.arr] w fun e w' => e = .returned (.bool (vs.any (fun x => x.cmp y == 0))) ∧ Below w.heap.size w w' := by
  have hc := fun bv W hK hO hW hY => holds_contains vs y hn p c bv W hK hO hW hY
  have HK := Aside0.mk hk
  have HYO := Aside0.mk hyo
  have HX := Aside0.mk hl
  clear hl hk hyo
  have s0 := store_of (QV.one y 0 (by decide))
  have s1 := store_of (QV.one y 1 (by decide))
  have s2 := store_of (QV.one y 2 (by decide))
  have s3 := store_of (QV.one y 3 (by decide))
  have s4 := store_of (QV.one y 4 (by decide))
  have s5 := store_of (QV.one y 5 (by decide))
  have s6 := store_of (QV.one y 6 (by decide))
  unfold QV.arr
  generalize hy0 : QV.cell 0 y = a0 at s0 ⊢
  generalize hy1 : QV.cell 1 y = a1 at s1 ⊢
  generalize hy2 : QV.cell 2 y = a2 at s2 ⊢
  generalize hy3 : QV.cell 3 y = a3 at s3 ⊢
  generalize hy4 : QV.cell 4 y = a4 at s4 ⊢
  generalize hy5 : QV.cell 5 y = a5 at s5 ⊢
  generalize hy6 : QV.cell 6 y = a6 at s6 ⊢
  have hta : ∀ (x : Value) (w : World), Sem.run Tryz.prog (Instr.typeAssert (.iface 147 x) 144 147 true) w = .ok (.tuple #[x, .bool true]) w := by intro x w; simp [Instr.typeAssert, go_sem]
  go_enter Tryz.func52, Tryz.ntmps52
  have HYL : ∀ O, Aside0 (QV.Lies ((w.alloc O).alloc (Obj.cells #[a0, a1, a2, a3, a4, a5, a6] 39)) ⟨w.heap.size + 1, 0, none⟩ y) := fun O => ⟨QV.Lies.of7 (by rw [hy0]; simp) (by rw [hy1]; simp) (by rw [hy2]; simp) (by rw [hy3]; simp) (by rw [hy4]; simp) (by rw [hy5]; simp) (by rw [hy6]; simp)⟩
  go_wp2_with (first | (go_at_call 72; refine (hc _ _ (fun x hx => (HK.out x hx).below HB.out) (HYO.out.below HB.out) (fun i x hx => Exists.imp (fun _ h => ⟨h.1, fun j hj => (HB.out.cell (World.block_lt_of_cell? _ _ (h.2 j hj))).trans (h.2 j hj)⟩) (HX.out i x hx)) HY.out).mono ?_; rintro e w' ⟨rfl, hb⟩; have HB2 : Aside0 (Below w.heap.size w w') := ⟨below_step HB.out hb⟩; clear hb) | (go_at_call 71; refine (value_of5 _ _ _ _ _ _ _ _ _).mono ?_; rintro e w' ⟨rfl, hb⟩; have HY := Aside0.mk ((HYL _).out.below hb); have HB : Aside0 (Below w.heap.size w w') := ⟨below_step (by repeat (first | exact Below.refl _ _ | apply below_alloc | apply pw_below_drewN | apply below_drew1)) hb⟩; clear hb HYL))
  go_ret
  exact ⟨rfl, HB2.out⟩
set_option maxRecDepth 100000 in
set_option maxHeartbeats 8000000 in
theorem holds_1 (b : Bool) (n : Int) (s t i : ByteArray) (p : Option Addr) (m c : Nat) (y : QV) (w : World) :
    Calls Tryz.prog 52 #[.agg #[.int .i64 1, .bool b, .int .i64 n, .string s, .string t, .string i, .slice p m c], .agg y.arr] w fun e w' => e = .returned (.bool false) ∧ Below w.heap.size w w' := by
  have hta : ∀ (x : Value) (w : World), Sem.run Tryz.prog (Instr.typeAssert (.iface 162 x) 144 147 true) w = .ok (.tuple #[.slice none 0 0, .bool false]) w := by intro x w; simp [Instr.typeAssert, go_sem]
  unfold QV.arr
  have s0 := store_of (QV.one y 0 (by decide))
  have s1 := store_of (QV.one y 1 (by decide))
  have s2 := store_of (QV.one y 2 (by decide))
  have s3 := store_of (QV.one y 3 (by decide))
  have s4 := store_of (QV.one y 4 (by decide))
  have s5 := store_of (QV.one y 5 (by decide))
  have s6 := store_of (QV.one y 6 (by decide))
  generalize QV.cell 0 y = a0 at s0 ⊢
  generalize QV.cell 1 y = a1 at s1 ⊢
  generalize QV.cell 2 y = a2 at s2 ⊢
  generalize QV.cell 3 y = a3 at s3 ⊢
  generalize QV.cell 4 y = a4 at s4 ⊢
  generalize QV.cell 5 y = a5 at s5 ⊢
  generalize QV.cell 6 y = a6 at s6 ⊢
  go_enter Tryz.func52, Tryz.ntmps52
  go_wp2_with (go_at_call 71; refine (value_of1 _ _ _ _ _ _ _ _ _).mono ?_; rintro e w' ⟨rfl, hb⟩; have HB : Aside0 (Below w.heap.size w w') := ⟨below_step (by repeat (first | exact Below.refl _ _ | apply below_alloc | apply pw_below_drewN | apply below_drew1)) hb⟩; clear hb)
  go_ret
  exact ⟨rfl, HB.out⟩
set_option maxRecDepth 100000 in
set_option maxHeartbeats 8000000 in
theorem holds_2 (b : Bool) (n : Int) (s t i : ByteArray) (p : Option Addr) (m c : Nat) (y : QV) (w : World) :
    Calls Tryz.prog 52 #[.agg #[.int .i64 2, .bool b, .int .i64 n, .string s, .string t, .string i, .slice p m c], .agg y.arr] w fun e w' => e = .returned (.bool false) ∧ Below w.heap.size w w' := by
  have hta : ∀ (x : Value) (w : World), Sem.run Tryz.prog (Instr.typeAssert (.iface 163 x) 144 147 true) w = .ok (.tuple #[.slice none 0 0, .bool false]) w := by intro x w; simp [Instr.typeAssert, go_sem]
  unfold QV.arr
  have s0 := store_of (QV.one y 0 (by decide))
  have s1 := store_of (QV.one y 1 (by decide))
  have s2 := store_of (QV.one y 2 (by decide))
  have s3 := store_of (QV.one y 3 (by decide))
  have s4 := store_of (QV.one y 4 (by decide))
  have s5 := store_of (QV.one y 5 (by decide))
  have s6 := store_of (QV.one y 6 (by decide))
  generalize QV.cell 0 y = a0 at s0 ⊢
  generalize QV.cell 1 y = a1 at s1 ⊢
  generalize QV.cell 2 y = a2 at s2 ⊢
  generalize QV.cell 3 y = a3 at s3 ⊢
  generalize QV.cell 4 y = a4 at s4 ⊢
  generalize QV.cell 5 y = a5 at s5 ⊢
  generalize QV.cell 6 y = a6 at s6 ⊢
  go_enter Tryz.func52, Tryz.ntmps52
  go_wp2_with (go_at_call 71; refine (value_of2 _ _ _ _ _ _ _ _ _).mono ?_; rintro e w' ⟨rfl, hb⟩; have HB : Aside0 (Below w.heap.size w w') := ⟨below_step (by repeat (first | exact Below.refl _ _ | apply below_alloc | apply pw_below_drewN | apply below_drew1)) hb⟩; clear hb)
  go_ret
  exact ⟨rfl, HB.out⟩
set_option maxRecDepth 100000 in
set_option maxHeartbeats 8000000 in
theorem holds_3 (b : Bool) (n : Int) (s t i : ByteArray) (p : Option Addr) (m c : Nat) (y : QV) (w : World) :
    Calls Tryz.prog 52 #[.agg #[.int .i64 3, .bool b, .int .i64 n, .string s, .string t, .string i, .slice p m c], .agg y.arr] w fun e w' => e = .returned (.bool false) ∧ Below w.heap.size w w' := by
  have hta : ∀ (x : Value) (w : World), Sem.run Tryz.prog (Instr.typeAssert (.iface 164 x) 144 147 true) w = .ok (.tuple #[.slice none 0 0, .bool false]) w := by intro x w; simp [Instr.typeAssert, go_sem]
  unfold QV.arr
  have s0 := store_of (QV.one y 0 (by decide))
  have s1 := store_of (QV.one y 1 (by decide))
  have s2 := store_of (QV.one y 2 (by decide))
  have s3 := store_of (QV.one y 3 (by decide))
  have s4 := store_of (QV.one y 4 (by decide))
  have s5 := store_of (QV.one y 5 (by decide))
  have s6 := store_of (QV.one y 6 (by decide))
  generalize QV.cell 0 y = a0 at s0 ⊢
  generalize QV.cell 1 y = a1 at s1 ⊢
  generalize QV.cell 2 y = a2 at s2 ⊢
  generalize QV.cell 3 y = a3 at s3 ⊢
  generalize QV.cell 4 y = a4 at s4 ⊢
  generalize QV.cell 5 y = a5 at s5 ⊢
  generalize QV.cell 6 y = a6 at s6 ⊢
  go_enter Tryz.func52, Tryz.ntmps52
  go_wp2_with (go_at_call 71; refine (value_of3 _ _ _ _ _ _ _ _ _).mono ?_; rintro e w' ⟨rfl, hb⟩; have HB : Aside0 (Below w.heap.size w w') := ⟨below_step (by repeat (first | exact Below.refl _ _ | apply below_alloc | apply pw_below_drewN | apply below_drew1)) hb⟩; clear hb)
  go_ret
  exact ⟨rfl, HB.out⟩
set_option maxRecDepth 100000 in
set_option maxHeartbeats 8000000 in
theorem holds_4 (b : Bool) (n : Int) (s t i : ByteArray) (p : Option Addr) (m c : Nat) (y : QV) (w : World) :
    Calls Tryz.prog 52 #[.agg #[.int .i64 4, .bool b, .int .i64 n, .string s, .string t, .string i, .slice p m c], .agg y.arr] w fun e w' => e = .returned (.bool false) ∧ Below w.heap.size w w' := by
  have hta : ∀ (x : Value) (w : World), Sem.run Tryz.prog (Instr.typeAssert (.iface 165 x) 144 147 true) w = .ok (.tuple #[.slice none 0 0, .bool false]) w := by intro x w; simp [Instr.typeAssert, go_sem]
  unfold QV.arr
  have s0 := store_of (QV.one y 0 (by decide))
  have s1 := store_of (QV.one y 1 (by decide))
  have s2 := store_of (QV.one y 2 (by decide))
  have s3 := store_of (QV.one y 3 (by decide))
  have s4 := store_of (QV.one y 4 (by decide))
  have s5 := store_of (QV.one y 5 (by decide))
  have s6 := store_of (QV.one y 6 (by decide))
  generalize QV.cell 0 y = a0 at s0 ⊢
  generalize QV.cell 1 y = a1 at s1 ⊢
  generalize QV.cell 2 y = a2 at s2 ⊢
  generalize QV.cell 3 y = a3 at s3 ⊢
  generalize QV.cell 4 y = a4 at s4 ⊢
  generalize QV.cell 5 y = a5 at s5 ⊢
  generalize QV.cell 6 y = a6 at s6 ⊢
  go_enter Tryz.func52, Tryz.ntmps52
  go_wp2_with (go_at_call 71; refine (value_of4 _ _ _ _ _ _ _ _ _).mono ?_; rintro e w' ⟨rfl, hb⟩; have HB : Aside0 (Below w.heap.size w w') := ⟨below_step (by repeat (first | exact Below.refl _ _ | apply below_alloc | apply pw_below_drewN | apply below_drew1)) hb⟩; clear hb)
  go_ret
  exact ⟨rfl, HB.out⟩
set_option maxRecDepth 100000 in
set_option maxHeartbeats 8000000 in
theorem holds_0 (k : Int) (h1 : k ≠ 1) (h2 : k ≠ 2) (h3 : k ≠ 3) (h4 : k ≠ 4) (h5 : k ≠ 5) (b : Bool) (n : Int) (s t i : ByteArray) (p : Option Addr) (m c : Nat) (y : QV) (w : World) :
    Calls Tryz.prog 52 #[.agg #[.int .i64 k, .bool b, .int .i64 n, .string s, .string t, .string i, .slice p m c], .agg y.arr] w fun e w' => e = .returned (.bool false) ∧ Below w.heap.size w w' := by
  have hta : ∀ (w : World), Sem.run Tryz.prog (Instr.typeAssert .nilIface 144 147 true) w = .ok (.tuple #[.slice none 0 0, .bool false]) w := by intro w; simp [Instr.typeAssert, go_sem]
  unfold QV.arr
  have s0 := store_of (QV.one y 0 (by decide))
  have s1 := store_of (QV.one y 1 (by decide))
  have s2 := store_of (QV.one y 2 (by decide))
  have s3 := store_of (QV.one y 3 (by decide))
  have s4 := store_of (QV.one y 4 (by decide))
  have s5 := store_of (QV.one y 5 (by decide))
  have s6 := store_of (QV.one y 6 (by decide))
  generalize QV.cell 0 y = a0 at s0 ⊢
  generalize QV.cell 1 y = a1 at s1 ⊢
  generalize QV.cell 2 y = a2 at s2 ⊢
  generalize QV.cell 3 y = a3 at s3 ⊢
  generalize QV.cell 4 y = a4 at s4 ⊢
  generalize QV.cell 5 y = a5 at s5 ⊢
  generalize QV.cell 6 y = a6 at s6 ⊢
  go_enter Tryz.func52, Tryz.ntmps52
  go_wp2_with (go_at_call 71; refine (value_of0 _ h1 h2 h3 h4 h5 _ _ _ _ _ _ _ _ _).mono ?_; rintro e w' ⟨rfl, hb⟩; have HB : Aside0 (Below w.heap.size w w') := ⟨below_step (by repeat (first | exact Below.refl _ _ | apply below_alloc | apply pw_below_drewN | apply below_drew1)) hb⟩; clear hb)
  go_ret
  exact ⟨rfl, HB.out⟩
/-- value.Holds, whatever is asked. -/
def value_Holds.f (a0_0 : Int) (a0_1 : Bool) (a0_2 : Int) (a0_3 a0_4 a0_5 : ByteArray) (l0_6 : List S39) (a1_0 : Int) (a1_1 : Bool) (a1_2 : Int) (a1_3 a1_4 a1_5 : ByteArray) (l1_6 : List S39) : Option Bool :=
  some (decide (a0_0 = 5) && l0_6.any (fun x => cmpV x ⟨a1_0, a1_1, a1_2, a1_3, ⟨a1_4, a1_5⟩, l1_6⟩ == 0))
theorem value_Holds.calls_ (a0_0 : Int) (a0_1 : Bool) (a0_2 : Int) (a0_3 : ByteArray) (a0_4 : ByteArray) (a0_5 : ByteArray) (A0_6 : Option Addr) (c0_6 : Nat) (l0_6 : List S39) (a1_0 : Int) (a1_1 : Bool) (a1_2 : Int) (a1_3 : ByteArray) (a1_4 : ByteArray) (a1_5 : ByteArray) (A1_6 : Option Addr) (c1_6 : Nat) (l1_6 : List S39) (r : Bool) (w : World) (hr0_6 : Kd.C k39 w A0_6 l0_6.length l0_6) (hc0_6 : l0_6.length ≤ c0_6) (hr1_6 : Kd.C k39 w A1_6 l1_6.length l1_6) (hc1_6 : l1_6.length ≤ c1_6) (h : value_Holds.f a0_0 a0_1 a0_2 a0_3 a0_4 a0_5 l0_6 a1_0 a1_1 a1_2 a1_3 a1_4 a1_5 l1_6 = some r) :
    Calls Tryz.prog 52 #[.agg #[.int .i64 a0_0, .bool a0_1, .int .i64 a0_2, .string a0_3, .string a0_4, .string a0_5, .slice A0_6 l0_6.length c0_6], .agg #[.int .i64 a1_0, .bool a1_1, .int .i64 a1_2, .string a1_3, .string a1_4, .string a1_5, .slice A1_6 l1_6.length c1_6]] w fun e w' => e = .returned (.bool r) ∧ Below w.heap.size w w' := by
  unfold value_Holds.f at h
  have hr := (Option.some.inj h).symm
  clear h
  by_cases e5 : a0_0 = 5
  · subst e5
    subst hr
    obtain ⟨l, rfl, hok, hl⟩ := rows_qvC hr0_6
    have hm := Kd.C_max hr0_6
    rw [List.length_map] at hm
    have := holds_set a0_1 a0_2 a0_3 a0_4 a0_5 l ⟨⟨a1_0, a1_1, a1_2, a1_3, ⟨a1_4, a1_5⟩, l1_6⟩, A1_6, c1_6⟩ hm A0_6 c0_6 w hok ⟨hc1_6, hr1_6⟩ hl
    rw [List.length_map]
    refine this.mono fun e w' h => ⟨h.1.trans ?_, h.2⟩
    simp only [List.any_map]
    rfl
  · have hr0 : r = false := by rw [hr]; simp [e5]
    subst hr0
    have Y : QV := ⟨⟨a1_0, a1_1, a1_2, a1_3, ⟨a1_4, a1_5⟩, l1_6⟩, A1_6, c1_6⟩
    by_cases e1 : a0_0 = 1
    · subst e1; exact holds_1 a0_1 a0_2 a0_3 a0_4 a0_5 A0_6 l0_6.length c0_6 ⟨⟨a1_0, a1_1, a1_2, a1_3, ⟨a1_4, a1_5⟩, l1_6⟩, A1_6, c1_6⟩ w
    by_cases e2 : a0_0 = 2
    · subst e2; exact holds_2 a0_1 a0_2 a0_3 a0_4 a0_5 A0_6 l0_6.length c0_6 ⟨⟨a1_0, a1_1, a1_2, a1_3, ⟨a1_4, a1_5⟩, l1_6⟩, A1_6, c1_6⟩ w
    by_cases e3 : a0_0 = 3
    · subst e3; exact holds_3 a0_1 a0_2 a0_3 a0_4 a0_5 A0_6 l0_6.length c0_6 ⟨⟨a1_0, a1_1, a1_2, a1_3, ⟨a1_4, a1_5⟩, l1_6⟩, A1_6, c1_6⟩ w
    by_cases e4 : a0_0 = 4
    · subst e4; exact holds_4 a0_1 a0_2 a0_3 a0_4 a0_5 A0_6 l0_6.length c0_6 ⟨⟨a1_0, a1_1, a1_2, a1_3, ⟨a1_4, a1_5⟩, l1_6⟩, A1_6, c1_6⟩ w
    exact holds_0 a0_0 e1 e2 e3 e4 e5 a0_1 a0_2 a0_3 a0_4 a0_5 A0_6 l0_6.length c0_6 ⟨⟨a1_0, a1_1, a1_2, a1_3, ⟨a1_4, a1_5⟩, l1_6⟩, A1_6, c1_6⟩ w
end Go.Proofs.YtelibndkkokadaaGreat.GB
