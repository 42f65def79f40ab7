import Derived.Test.YtelibndkkokadaaGB0
import Derived.Deep.DeepAppendWide
import Derived.Shelf.Spec.SlicesInsertGrow
import Derived.Deep.Upon
namespace Go.Proofs.Ytelibndkkokadaa.GI
open Go.RowKit Go.Proofs.YtelibndkkokadaaW.PrintWords Go.Proofs.YtelibndkkokadaaW.PrintLast Go.Proofs.Ytelibndkkokadaa.HandV Go.Proofs.YtelibndkkokadaaW.PrintMore
open Go.Proofs.Ytelibndkkokadaa.GB
attribute [local go_sem] max2_int min2_int max_two min_two max_three min_three max_four min_four   -- for this text's walks alone
set_option linter.unusedVariables false
set_option linter.unusedSimpArgs false
-- IMPORT Derived.Deep.DeepAppendWide
-- IMPORT Derived.Shelf.Spec.SlicesInsertGrow
-- IMPORT Derived.Deep.Upon
set_option maxRecDepth 100000 in
set_option maxHeartbeats 8000000 in
/-- slices.Insert of one value at the end: the row grows by it, with room or without. -/
theorem insert_end (v : Value) (n : Nat) (xs news : List Value) (base : Nat) (vb vc : Nat) (w : World) (hn : n ≤ 1000) (hown : w.ownsRow base 38 4 v n xs) (hbase : base ≤ w.heap.size)
    (hl : news.length = 4) (hnews : ∀ j u, news[j]? = some u → w.cell? (Addr.add ⟨vb, 0, none⟩ j) = some u) (h1 : ∀ u ∈ news, u.oneCell' = true) :
    Calls Try.prog 65 #[v, .int .i64 (n : Int), .slice (some ⟨vb, 0, none⟩) 1 vc] w fun e w' => ∃ v', e = .returned v' ∧ w'.ownsRow base 38 4 v' (n + 1) (xs ++ news) ∧ w.grownBy w' v.ownBlock := by
  obtain ⟨i0, hi0, hz0, hzs, hzb⟩ := info_parts info38
  have hz1 : ¬ ((1 : Int) = 0) := by omega
  have he : ((n : Int) == (n : Int)) = true := beq_self_eq_true _
  have hb : ((n + 1) + (n + 1) / 4 + 192) * 80 ≤ 281474976710656 := by omega
  have hm : n + 1 ≤ maxLen := by unfold maxLen; omega
  have hown2 := hown.2
  rcases hown2 with ⟨rfl, rfl⟩ | ⟨g, cap, cur, rfl, hbg, hh, hnc, hcm, hcs, htk⟩
  · go_enter Try.func65, Try.ntmps65
    go_wp2_with (at_builtin; (first | (refine wpList_append_own_wide w rfl (.tmp 23) (.tmp 24) 25 rfl base 38 i0 _ 4 80 Try.underlying25 hi0 hz0 hzs hzb rfl (by decide) (.slice none 0 0) 0 xs rfl hown ⟨vb, 0, none⟩ 1 vc news rfl hl hnews h1 hm hb hbase ?_) | (refine wp_append_own_wide w (.tmp 23) (.tmp 24) 25 rfl base 38 i0 _ 4 80 Try.underlying25 hi0 hz0 hzs hzb rfl (by decide) (.slice none 0 0) 0 xs rfl hown ⟨vb, 0, none⟩ 1 vc news rfl hl hnews h1 hm hb hbase ?_)); intro v' w' h2 h3 _)
    go_ret
    exact ⟨_, rfl, h2, h3⟩
  · have hnn : (0 ≤ (n : Int)) = True := eq_true (by omega)
    clear hh hcs htk
    go_enter Try.func65, Try.ntmps65
    go_wp2_with (at_builtin; (first | (refine wpList_append_own_wide w rfl (.tmp 23) (.tmp 24) 25 rfl base 38 i0 _ 4 80 Try.underlying25 hi0 hz0 hzs hzb rfl (by decide) (.slice (some ⟨g, 0, none⟩) n cap) n xs rfl hown ⟨vb, 0, none⟩ 1 vc news rfl hl hnews h1 hm hb hbase ?_) | (refine wp_append_own_wide w (.tmp 23) (.tmp 24) 25 rfl base 38 i0 _ 4 80 Try.underlying25 hi0 hz0 hzs hzb rfl (by decide) (.slice (some ⟨g, 0, none⟩) n cap) n xs rfl hown ⟨vb, 0, none⟩ 1 vc news rfl hl hnews h1 hm hb hbase ?_)); intro v' w' h2 h3 _)
    all_goals (go_ret; exact ⟨_, rfl, by assumption, by assumption⟩)
theorem setCell_heap (w : World) (b o : Nat) (v : Value) (cur : List Value) (e : TypeId) (fz : Nat × Nat) (h : w.heap[b]? = some (.cells cur.toArray e fz)) :
    (w.setCell ⟨b, o, none⟩ v).heap[b]? = some (.cells (cur.set o v).toArray e fz) := by
  have hlt : b < w.heap.size := (Array.getElem?_eq_some_iff.1 h).1
  have hv : w.heap[b] = .cells cur.toArray e fz := (Array.getElem?_eq_some_iff.1 h).2
  unfold World.setCell
  rw [Array.getElem?_eq_getElem (by simpa using hlt), Array.getElem_modify]
  simp [hv]
theorem setCells_heap (b : Nat) (e : TypeId) (fz : Nat × Nat) : ∀ (vs : List Value) (o : Nat) (w : World) (cur : List Value), w.heap[b]? = some (.cells cur.toArray e fz) → o + vs.length ≤ cur.length →
    (w.setCells b o vs).heap[b]? = some (.cells (cur.take o ++ vs ++ cur.drop (o + vs.length)).toArray e fz)
  | [], o, w, cur, h, _ => by simpa [World.setCells] using h
  | v :: r, o, w, cur, h, hl => by
    have hl2 : o + (r.length + 1) ≤ cur.length := by simpa using hl
    have h1 := setCells_heap b e fz r (o + 1) _ _ (setCell_heap w b o v cur e fz h) (by rw [List.length_set]; omega)
    rw [World.setCells, h1]
    have e1 : (cur.set o v).take (o + 1) = cur.take o ++ [v] := by
      rw [List.take_succ_eq_append_getElem (by rw [List.length_set]; omega), List.take_set_of_le (Nat.le_refl o)]
      simp
    have e2 : (cur.set o v).drop (o + 1 + r.length) = cur.drop (o + (v :: r).length) := by
      rw [List.drop_set_of_lt (by omega), List.length_cons, Nat.add_assoc, Nat.add_comm 1]
    rw [e1, e2]
    simp
/-- What a row is when a piece is put in its midst, in two copies. -/
theorem ins_row (L xs news : List Value) (n7 i7 : Nat) (h : L.take n7 = xs) (hi : i7 ≤ n7) (hn : news.length = 4) (hL : n7 + 4 ≤ L.length) :
    ((((L.take (i7 + 4) ++ xs.drop i7 ++ L.drop (i7 + 4 + (n7 - i7))).take i7) ++ news ++ ((L.take (i7 + 4) ++ xs.drop i7 ++ L.drop (i7 + 4 + (n7 - i7))).drop (i7 + 4)))).take (n7 + 4) = xs.take i7 ++ news ++ xs.drop i7 := by
  have hx : xs.length = n7 := by rw [← h, List.length_take]; omega
  have e1 : (L.take (i7 + 4) ++ xs.drop i7 ++ L.drop (i7 + 4 + (n7 - i7))).take i7 = xs.take i7 := by
    rw [List.append_assoc, List.take_append_of_le_length (by rw [List.length_take]; omega), List.take_take, ← h, List.take_take]
    congr 1
    omega
  have e2 : (L.take (i7 + 4) ++ xs.drop i7 ++ L.drop (i7 + 4 + (n7 - i7))).drop (i7 + 4) = xs.drop i7 ++ L.drop (i7 + 4 + (n7 - i7)) := by
    rw [List.append_assoc]
    exact List.drop_left' (by rw [List.length_take]; omega)
  rw [e1, e2, ← List.append_assoc]
  exact List.take_left' (by rw [List.length_append, List.length_append, List.length_take, List.length_drop]; omega)
section
variable {P : Program}
theorem run_copy_wide (w : World) (dT sT ty elem : TypeId) (size b o dLen dCap : Nat) (a : Addr) (sLen sCap : Nat) (cs : List Value)
    (hu : P.underlying dT = some (.slice elem)) (hs : (P.info? elem).map (·.size) = some size) (hn : cs.length = Nat.min sLen dLen * size)
    (hsrc : ∀ j v, cs[j]? = some v → w.cell? (a.add j) = some v) (hc : ∀ j, j < cs.length → (w.cell? ⟨b, o + j, none⟩).isSome = true) (hf : ∀ j, j < cs.length → w.frozen? ⟨b, o + j, none⟩ = false) (h1 : ∀ v ∈ cs, v.oneCell' = true) :
    (Builtin.copy_ #[dT, sT] ty #[.slice (some ⟨b, o, none⟩) dLen dCap, .slice (some a) sLen sCap]).run P w = .ok (goInt (Nat.min sLen dLen)) (w.setCells b o cs) := by
  have hl := run_loadCells_list (P := P) w a cs hsrc
  have hst := run_storeCells_cells (P := P) b o cs 0 w (by simpa using hc) (by simpa using hf) h1
  cases hq : P.info? elem with
  | none => simp [hq] at hs
  | some i =>
    have hi : i.size = size := by simpa [hq] using hs
    rw [hn] at hl
    simp [Builtin.copy_, run_underlying hu, Builtin.lenOf, Builtin.firstCells, sizeOf, typeInfo, hq, hi, hl, hst]
end
theorem ins_row2 (R xs news : List Value) (n7 i7 : Nat) (hx : xs.length = n7) (h : R.take i7 = xs.take i7) (hi : i7 ≤ n7) (hn : news.length = 4) :
    (((R.take i7 ++ news ++ R.drop (i7 + 4)).take (i7 + 4)) ++ xs.drop i7 ++ ((R.take i7 ++ news ++ R.drop (i7 + 4)).drop (i7 + 4 + (n7 - i7)))).take (n7 + 4) = xs.take i7 ++ news ++ xs.drop i7 := by
  have e1 : (R.take i7 ++ news ++ R.drop (i7 + 4)).take (i7 + 4) = xs.take i7 ++ news := by
    rw [h]
    exact List.take_left' (by rw [List.length_append, List.length_take]; omega)
  rw [e1]
  exact List.take_left' (by rw [List.length_append, List.length_append, List.length_take, List.length_drop]; omega)
set_option maxRecDepth 100000 in
set_option maxHeartbeats 8000000 in
/-- The walk through slices.Insert in the midst without room. -/
theorem insert_full_walk (g n cap i G N : Nat) (vb vc : Nat) (w W1 : World) (hi : i < n) (hn : n ≤ 1000) (hnc : n ≤ cap) (hfull : cap < n + 1) (hGn : n + 1 ≤ G) (xs news : List Value)
    (hrz : ∀ ty, (Builtin.append_ #[25, 3] ty #[.slice (some ⟨g, 0, none⟩) i cap, .int .i64 ((n + 1 - i : Nat) : Int)]).run Try.prog w = .ok (.slice (some ⟨N, 0, none⟩) (n + 1) G) W1)
    (hcpA : ∀ (W : World), (∀ x, W.cell? x = W1.cell? x) → (∀ x, W.frozen? x = W1.frozen? x) → ∀ ty dc, (Builtin.copy_ #[25, 25] ty #[.slice (some ⟨N, i * 4, none⟩) (n + 1 - i) dc, .slice (some ⟨vb, 0, none⟩) 1 vc]).run Try.prog W = .ok (goInt 1) (W.setCells N (i * 4) news))
    (hcpB : ∀ (W : World), (∀ x, W.cell? x = (W1.setCells N (i * 4) news).cell? x) → (∀ x, W.frozen? x = (W1.setCells N (i * 4) news).frozen? x) → ∀ ty dc sc, (Builtin.copy_ #[25, 25] ty #[.slice (some ⟨N, (i + 1) * 4, none⟩) (n - i) dc, .slice (some ⟨g, i * 4, none⟩) (n - i) sc]).run Try.prog W = .ok (goInt ((n - i : Nat) : Int)) (W.setCells N ((i + 1) * 4) xs)) :
    Calls Try.prog 65 #[.slice (some ⟨g, 0, none⟩) n cap, .int .i64 (i : Int), .slice (some ⟨vb, 0, none⟩) 1 vc] w fun e w' => e = .returned (.slice (some ⟨N, 0, none⟩) (n + 1) G) ∧ w' = ((W1.setCells N (i * 4) news).drew).setCells N ((i + 1) * 4) xs := by
  have hz1 : ¬ ((1 : Int) = 0) := by omega
  have mixed : Try.prog.follows Departure.mixedOrders = true := by kernel_rfl
  have he : ((i : Int) == (n : Int)) = false := beq_eq_false_iff_ne.mpr (by omega)
  have hgt : decide ((cap : Int) < (n : Int) + 1) = true := decide_eq_true (by omega)
  have hgt2 : decide (cap < n + 1) = true := decide_eq_true (by omega)
  have h0 : (0 ≤ (i : Int)) = True := eq_true (by omega)
  have h2 : ((i : Int) ≤ (n : Int)) = True := eq_true (by omega)
  have h3 : ((i : Int) ≤ (cap : Int)) = True := eq_true (by omega)
  have h4 : i ≤ n := by omega
  have h5 : i ≤ cap := by omega
  have hkk : (n : Int) + 1 - (i : Int) = ((n + 1 - i : Nat) : Int) := by omega
  have hGi : ¬ (G = i) := by omega
  have hGim : ¬ (G = i + 1) := by omega
  have hci : ¬ (cap = i) := by omega
  have hw1 : IntKind.i64.wrap ((i : Int) + 1) = (i : Int) + 1 := by rw [IntKind.wrap_i64]; omega
  have hb1 : (0 : Int) ≤ (i : Int) + 1 := by omega
  have htn : ((i : Int) + 1).toNat = i + 1 := by omega
  have hb3 : (i : Int) ≤ (n : Int) := by omega
  go_enter Try.func65, Try.ntmps65
  go_wp2_with (first
    | (at_builtin; refine Lib.wpList_append_run _ rfl _ _ _ _ rfl _ _ rfl rfl _ _ (hrz _) ?_)
    | (at_builtin; refine wpList_copy_runI _ rfl _ _ 25 25 rfl _ _ rfl rfl (hcpA _ (fun _ => rfl) (fun _ => rfl) _ _) ?_)
    | (at_builtin; refine wpList_copy_runI _ rfl _ _ 25 25 rfl _ _ rfl rfl (hcpB _ (fun _ => rfl) (fun _ => rfl) _ _ _) ?_))
  have hB := hcpB (W1.setCells N (i * 4) news).drew (fun _ => rfl) (fun _ => rfl) 3 (G - (i + 1)) (cap - i)
  go_region_law_o (fail)
  go_wp2
  go_ret
  exact ⟨rfl, rfl⟩
set_option maxRecDepth 100000 in
set_option maxHeartbeats 8000000 in
/-- The walk through slices.Insert in the midst with room. -/
theorem insert_room_walk (g n cap i : Nat) (vb vc : Nat) (w : World) (hi : i < n) (hn : n ≤ 1000) (hroom : n + 1 ≤ cap) (xs news : List Value)
    (hov : ∀ lb cb, (callFunc 89 #[.slice (some ⟨vb, 0, none⟩) 1 vc, .slice (some ⟨g, (i + 1) * 4, none⟩) lb cb]).run Try.prog w = .ok (.value (.bool false)) w)
    (hcpA : ∀ (W : World), (∀ x, W.cell? x = w.cell? x) → (∀ x, W.frozen? x = w.frozen? x) → ∀ ty dc sc, (Builtin.copy_ #[25, 25] ty #[.slice (some ⟨g, (i + 1) * 4, none⟩) (n - i) dc, .slice (some ⟨g, i * 4, none⟩) (n + 1 - i) sc]).run Try.prog W = .ok (goInt ((n - i : Nat) : Int)) (W.setCells g ((i + 1) * 4) xs))
    (hcpB : ∀ (W : World), (∀ x, W.cell? x = (w.drew.setCells g ((i + 1) * 4) xs).cell? x) → (∀ x, W.frozen? x = (w.drew.setCells g ((i + 1) * 4) xs).frozen? x) → ∀ ty dc, (Builtin.copy_ #[25, 25] ty #[.slice (some ⟨g, i * 4, none⟩) (n + 1 - i) dc, .slice (some ⟨vb, 0, none⟩) 1 vc]).run Try.prog W = .ok (goInt 1) (W.setCells g (i * 4) news)) :
    Calls Try.prog 65 #[.slice (some ⟨g, 0, none⟩) n cap, .int .i64 (i : Int), .slice (some ⟨vb, 0, none⟩) 1 vc] w fun e w' => e = .returned (.slice (some ⟨g, 0, none⟩) (n + 1) cap) ∧ w' = (w.drew.setCells g ((i + 1) * 4) xs).setCells g (i * 4) news := by
  have hz1 : ¬ ((1 : Int) = 0) := by omega
  have mixed : Try.prog.follows Departure.mixedOrders = true := by kernel_rfl
  have he : ((i : Int) == (n : Int)) = false := beq_eq_false_iff_ne.mpr (by omega)
  have hgt : decide ((cap : Int) < (n : Int) + 1) = false := decide_eq_false (by omega)
  have hgt2 : decide (cap < n + 1) = false := decide_eq_false (by omega)
  have h0 : (0 ≤ (i : Int)) = True := eq_true (by omega)
  have h2 : ((i : Int) ≤ (n : Int)) = True := eq_true (by omega)
  have h3 : ((i : Int) ≤ (cap : Int)) = True := eq_true (by omega)
  have h4 : i ≤ n := by omega
  have h5 : i ≤ cap := by omega
  have h6 : n + 1 ≤ cap := by omega
  have hkk : (n : Int) + 1 - (i : Int) = ((n + 1 - i : Nat) : Int) := by omega
  have hci : ¬ (cap = i) := by omega
  have hci1 : ¬ (cap = i + 1) := by omega
  have hw1 : IntKind.i64.wrap ((i : Int) + 1) = (i : Int) + 1 := by rw [IntKind.wrap_i64]; omega
  have hb1 : (0 : Int) ≤ (i : Int) + 1 := by omega
  have htn : ((i : Int) + 1).toNat = i + 1 := by omega
  have hb3 : (i : Int) ≤ (n : Int) := by omega
  have hb4 : (i : Int) ≤ (n : Int) + 1 := by omega
  have hA := hcpA w.drew (fun _ => rfl) (fun _ => rfl) 3 (cap - (i + 1)) (cap - i)
  go_enter Try.func65, Try.ntmps65
  go_wp2_with (simp only [hov])
  go_region_law_o (fail)
  have hB := hcpB (w.drew.setCells g ((i + 1) * 4) xs) (fun _ => rfl) (fun _ => rfl) 3 (cap - i)
  go_wp2
  go_ret
  exact ⟨rfl, rfl⟩
set_option maxRecDepth 100000 in
set_option maxHeartbeats 8000000 in
theorem insert_mid_full (g n cap i : Nat) (xs news : List Value) (base : Nat) (vb vc : Nat) (w : World) (hn : n ≤ 1000) (hi : i < n) (hfull : cap < n + 1) (hown : w.ownsRow base 38 4 (.slice (some ⟨g, 0, none⟩) n cap) n xs) (hbase : base ≤ w.heap.size)
    (hl : news.length = 4) (hnews : ∀ j u, news[j]? = some u → w.cell? (Addr.add ⟨vb, 0, none⟩ j) = some u) (h1 : ∀ u ∈ news, u.oneCell' = true) (h1x : ∀ u ∈ xs, u.oneCell' = true) :
    Calls Try.prog 65 #[.slice (some ⟨g, 0, none⟩) n cap, .int .i64 (i : Int), .slice (some ⟨vb, 0, none⟩) 1 vc] w fun e w' => ∃ v', e = .returned v' ∧ w'.ownsRow base 38 4 v' (n + 1) (xs.take (i * 4) ++ news ++ xs.drop (i * 4)) ∧ w.grownBy w' (some g) := by
  obtain ⟨i0, hi0, hz0, hzs, hzb⟩ := info_parts info38
  have hxl : xs.length = n * 4 := hown.1
  have hcs := hown.cells (g := g) rfl
  have hnc : n ≤ cap := by
    rcases hown.2 with ⟨h, _⟩ | ⟨g, cap, cur, h, hbg, hh, hnc, hcm, hcs, htk⟩
    · cases h
    · injection h with _ _ h3
      omega
  have hbw : g < w.heap.size := (hown.lt g rfl).2
  have hvw : vb < w.heap.size := by
    have := hnews 0 _ (List.getElem?_eq_getElem (by omega))
    simpa [Addr.add] using World.block_lt_of_cell? _ _ this
  clear hown
  have hsz : (Try.prog.info? 38).map (·.size) = some 4 := by rw [hi0]; simp [hzs]
  have hik : i + (n + 1 - i) = n + 1 := by omega
  have hold : (Builtin.firstCells i0.size i (.slice (some ⟨g, 0, none⟩) i cap)).run Try.prog w.drew = .ok (xs.take (i * 4)).toArray w.drew := by
    rw [hzs]
    exact run_firstCells_some w.drew 4 i ⟨g, 0, none⟩ i cap (xs.take (i * 4)) (by rw [List.length_take]; omega) (fun j v hj => by
      rw [List.getElem?_take] at hj
      split at hj
      · exact hcs j v hj
      · cases hj)
  have hrz := fun ty => Lib.run_append_grow_zeros w 25 3 ty 38 i0 _ .i64 .i64 Try.underlying25 Try.underlying3 hi0 hz0 (some ⟨g, 0, none⟩) i cap (xs.take (i * 4)) hold (n + 1 - i) (by omega) (by rw [hzs]; omega) (by omega) (by omega) (by rw [hzb]; omega) (by rw [hzb, hik]; exact growslice_fits (by omega) (by omega))
  rw [hik] at hrz
  have hGn : n + 1 ≤ grownCap w (n + 1) cap 38 := grownCap_ge w _ _ _
  have hGm : grownCap w (n + 1) cap 38 ≤ maxLen := grownCap_le_maxLen w (n + 1) cap 38 (by unfold maxLen; omega)
  generalize grownCap w (n + 1) cap 38 = G at hrz hGn hGm
  obtain ⟨ROW, hROW⟩ : ∃ ROW : Array Value, ROW = (xs.take (i * 4)).toArray ++ Builtin.zeroCells (Value.agg #[(.string ⟨#[]⟩), (.string ⟨#[]⟩), (.slice none 0 0), (.slice none 0 0)]).cells (n + 1 - i) ++ Builtin.zeroCells (Value.agg #[(.string ⟨#[]⟩), (.string ⟨#[]⟩), (.slice none 0 0), (.slice none 0 0)]).cells (G - (n + 1)) := ⟨_, rfl⟩
  rw [← hROW] at hrz
  have hRl : ROW.size = G * 4 := by
    rw [hROW, Array.size_append, Array.size_append, size_zeroCells, size_zeroCells, List.size_toArray, List.length_take, Nat.min_eq_left (by omega)]
    change i * 4 + (n + 1 - i) * 4 + (G - (n + 1)) * 4 = G * 4
    omega
  have hRt : ROW.toList.take (i * 4) = xs.take (i * 4) := by
    rw [hROW, Array.toList_append, Array.toList_append, List.append_assoc]
    exact List.take_left' (by rw [List.length_take]; omega)
  clear hROW hik hold
  have hRtl : ROW.toList.length = G * 4 := by rw [Array.length_toList]; exact hRl
  have hH : (w.drew.alloc (.cells ROW 38)).heap[w.heap.size]? = some (.cells ROW.toList.toArray 38 (0, 0)) := heap_alloc_new w.drew _
  have hHo : ∀ k, k < w.heap.size → (w.drew.alloc (.cells ROW 38)).heap[k]? = w.heap[k]? := fun k hk => by first | exact heap_alloc_old w.drew _ hk | exact heap_alloc_old w.drew _ k hk
  have hHs : w.heap.size < (w.drew.alloc (.cells ROW 38)).heap.size := by simp
  have hOs : (w.drew.alloc (.cells ROW 38)).os = w.os := rfl
  have hTa : (w.drew.alloc (.cells ROW 38)).tape = w.tape := rfl
  have hOu : (w.drew.alloc (.cells ROW 38)).output = w.output := rfl
  generalize w.drew.alloc (.cells ROW 38) = W1 at hrz hH hHo hHs hOs hTa hOu
  have hN : ∀ j, j < (n + 1) * 4 → (W1.cell? ⟨w.heap.size, j, none⟩).isSome = true := fun j hj => by
    unfold World.cell?
    rw [hH]
    simp
    omega
  have hNf : ∀ j, W1.frozen? ⟨w.heap.size, j, none⟩ = false := fun j => by
    unfold World.frozen?
    rw [hH]
    simp
  have hOb : ∀ k j v, k < w.heap.size → w.cell? ⟨k, j, none⟩ = some v → W1.cell? ⟨k, j, none⟩ = some v := fun k j v hk h => (World.cell?_of_block (a := ⟨k, j, none⟩) (hHo k hk)).trans h
  have hm1 : Nat.min 1 (n + 1 - i) = 1 := by simp only [Nat.min_def]; split <;> omega
  have hm2 : Nat.min (n - i) (n - i) = n - i := by simp only [Nat.min_def]; split <;> omega
  have hcpA : ∀ (W : World), (∀ x, W.cell? x = W1.cell? x) → (∀ x, W.frozen? x = W1.frozen? x) → ∀ ty dc, (Builtin.copy_ #[25, 25] ty #[.slice (some ⟨w.heap.size, i * 4, none⟩) (n + 1 - i) dc, .slice (some ⟨vb, 0, none⟩) 1 vc]).run Try.prog W = .ok (goInt 1) (W.setCells w.heap.size (i * 4) news) := fun W hWc hWf ty dc => by
    have := run_copy_wide (P := Try.prog) W 25 25 ty 38 4 w.heap.size (i * 4) (n + 1 - i) dc ⟨vb, 0, none⟩ 1 vc news Try.underlying25 hsz (by rw [hm1]; omega)
      (fun j v hj => by rw [Addr.add_lit, hWc]; exact hOb _ _ v hvw (by have := hnews j v hj; rwa [Addr.add_lit] at this))
      (fun j hj => by rw [hWc]; exact hN _ (by omega)) (fun j hj => by rw [hWf]; exact hNf _) h1
    rwa [hm1] at this
  have hdl : (xs.drop (i * 4)).length = n * 4 - i * 4 := by rw [List.length_drop, hxl]
  have hbN : g ≠ w.heap.size := by omega
  have hcpB : ∀ (W : World), (∀ x, W.cell? x = (W1.setCells w.heap.size (i * 4) news).cell? x) → (∀ x, W.frozen? x = (W1.setCells w.heap.size (i * 4) news).frozen? x) → ∀ ty dc sc, (Builtin.copy_ #[25, 25] ty #[.slice (some ⟨w.heap.size, (i + 1) * 4, none⟩) (n - i) dc, .slice (some ⟨g, i * 4, none⟩) (n - i) sc]).run Try.prog W = .ok (goInt ((n - i : Nat) : Int)) (W.setCells w.heap.size ((i + 1) * 4) (xs.drop (i * 4))) := fun W hWc hWf ty dc sc => by
    have := run_copy_wide (P := Try.prog) W 25 25 ty 38 4 w.heap.size ((i + 1) * 4) (n - i) dc ⟨g, i * 4, none⟩ (n - i) sc (xs.drop (i * 4)) Try.underlying25 hsz (by rw [hdl, hm2]; omega)
      (fun j v hj => by
        rw [Addr.add_lit, hWc, World.cell?_setCells_out _ _ _ _ _ (fun h _ => absurd h hbN)]
        exact hOb _ _ v hbw (by have := hcs (i * 4 + j) v (by rwa [List.getElem?_drop] at hj); rwa [Addr.add_lit, Nat.zero_add] at this))
      (fun j hj => by rw [hWc]; exact isSome_setCells _ _ _ _ (fun t ht => hN _ (by omega)) _ (hN _ (by omega)))
      (fun j hj => by rw [hWf, World.frozen?_setCells]; exact hNf _) (fun v hv => h1x v (List.mem_of_mem_drop hv))
    rw [hm2] at this
    exact this
  refine (insert_full_walk g n cap i G w.heap.size vb vc w W1 hi hn hnc hfull hGn (xs.drop (i * 4)) news hrz hcpA hcpB).mono ?_
  rintro e w' ⟨rfl, rfl⟩
  have k1 := setCells_heap w.heap.size 38 (0, 0) news (i * 4) W1 _ hH (by rw [hRtl, hl]; omega)
  have k2 := setCells_heap w.heap.size 38 (0, 0) (xs.drop (i * 4)) ((i + 1) * 4) (W1.setCells w.heap.size (i * 4) news).drew _ k1 (by simp only [List.length_append, List.length_take, List.length_drop, hRtl, hl, hxl]; omega)
  rw [hl] at k1 k2
  have hrow := ins_row2 ROW.toList xs news (n * 4) (i * 4) hxl hRt (by omega) hl
  rw [show i * 4 + 4 = (i + 1) * 4 by omega] at hrow
  rw [hdl, show i * 4 + 4 = (i + 1) * 4 by omega] at k2
  refine ⟨_, rfl, ⟨by rw [List.length_append, List.length_append, List.length_take, hdl]; omega, .inr ⟨w.heap.size, G, _, rfl, hbase, k2, hGn, hGm, ?_, ?_⟩⟩, ⟨?_, ?_, ?_, ?_, ?_⟩⟩
  · simp only [List.size_toArray, List.length_append, List.length_take, List.length_drop, hRtl, hl, hxl]
    omega
  · rw [show (n + 1) * 4 = n * 4 + 4 by omega]
    exact hrow
  · rw [World.os_setCells]
    exact (World.os_setCells _ _ _ _).trans hOs
  · have ht : ∀ (b : Nat) (vs : List Value) (o : Nat) (w : World), (w.setCells b o vs).tape = w.tape := by
      intro b vs
      induction vs with
      | nil => intro o w; rfl
      | cons v r ih => intro o w; rw [World.setCells, ih]; rfl
    rw [ht]
    exact (ht _ _ _ _).trans hTa
  · rw [World.output_setCells]
    exact (World.output_setCells _ _ _ _).trans hOu
  · have hs : ∀ (b : Nat) (vs : List Value) (o : Nat) (w : World), (w.setCells b o vs).heap.size = w.heap.size := by
      intro b vs
      induction vs with
      | nil => intro o w; rfl
      | cons v r ih => intro o w; rw [World.setCells, ih]; simp [World.setCell]
    rw [hs]
    show _ ≤ (W1.setCells _ _ _).heap.size
    rw [hs]
    omega
  · intro k hk _
    have hs : ∀ (b : Nat) (vs : List Value) (o : Nat) (w : World), (w.setCells b o vs).heap.size = w.heap.size := by
      intro b vs
      induction vs with
      | nil => intro o w; rfl
      | cons v r ih => intro o w; rw [World.setCells, ih]; simp [World.setCell]
    rw [World.heap_setCells_other _ _ _ _ (by show k < (W1.setCells _ _ _).heap.size; rw [hs]; omega) (by omega)]
    exact (World.heap_setCells_other _ _ _ _ (by omega) (by omega)).trans (hHo k hk)
set_option maxRecDepth 100000 in
set_option maxHeartbeats 8000000 in
theorem insert_mid_room (g n cap i : Nat) (xs news : List Value) (base : Nat) (vb vc : Nat) (vcur : Array Value) (w : World) (hn : n ≤ 1000) (hi : i < n) (hroom : n + 1 ≤ cap) (hown : w.ownsRow base 38 4 (.slice (some ⟨g, 0, none⟩) n cap) n xs) (hne : vb ≠ g)
    (hvc : w.heap[vb]? = some (.cells vcur 38 (0, 0)))
    (hl : news.length = 4) (hnews : ∀ j u, news[j]? = some u → w.cell? (Addr.add ⟨vb, 0, none⟩ j) = some u) (h1 : ∀ u ∈ news, u.oneCell' = true) (h1x : ∀ u ∈ xs, u.oneCell' = true) :
    Calls Try.prog 65 #[.slice (some ⟨g, 0, none⟩) n cap, .int .i64 (i : Int), .slice (some ⟨vb, 0, none⟩) 1 vc] w fun e w' => ∃ v', e = .returned v' ∧ w'.ownsRow base 38 4 v' (n + 1) (xs.take (i * 4) ++ news ++ xs.drop (i * 4)) ∧ w.grownBy w' (some g) := by
  obtain ⟨i0, hi0, hz0, hzs, hzb⟩ := info_parts info38
  have hxl : xs.length = n * 4 := hown.1
  have hcs := hown.cells (g := g) rfl
  obtain ⟨cur, hbg, hH, hcm, hcl, htk⟩ : ∃ cur : Array Value, base ≤ g ∧ w.heap[g]? = some (.cells cur 38 (0, 0)) ∧ cap ≤ maxLen ∧ cur.size = cap * 4 ∧ cur.toList.take (n * 4) = xs := by
    rcases hown.2 with ⟨h, _⟩ | ⟨g, cap, cur, h, hbg, hh, hnc, hcm, hcs, htk⟩
    · cases h
    · injection h with h1 _ h3
      injection h1 with h1
      injection h1 with h1
      subst h1 h3
      exact ⟨cur, hbg, hh, hcm, hcs, htk⟩
  clear hown
  have hsz : (Try.prog.info? 38).map (·.size) = some 4 := by rw [hi0]; simp [hzs]
  have hN : ∀ j, j < (n + 1) * 4 → (w.cell? ⟨g, j, none⟩).isSome = true := fun j hj => by
    unfold World.cell?
    rw [hH]
    simp
    omega
  have hNf : ∀ j, w.frozen? ⟨g, j, none⟩ = false := fun j => by
    unfold World.frozen?
    rw [hH]
    simp
  have hVf : ∀ j, w.frozen? ⟨vb, j, none⟩ = false := fun j => by
    unfold World.frozen?
    rw [hvc]
    simp
  have hov : ∀ lb cb, (callFunc 89 #[.slice (some ⟨vb, 0, none⟩) 1 vc, .slice (some ⟨g, (i + 1) * 4, none⟩) lb cb]).run Try.prog w = .ok (.value (.bool false)) w := fun lb cb => by
    rw [run_callFunc_extern Try.func89 (by kernel_rfl) (by kernel_rfl) (by kernel_rfl) (e := Extern.SlicesOverlaps.overlaps #[25, 25] #[4]) (by kernel_rfl),
      Lib.run_overlaps_apart w 25 4 38 Try.underlying25 4 (fun w => by first | exact run_sizeOf hi0 hzs | simp [sizeOf, typeInfo, hi0, hzs]) ⟨vb, 0, none⟩ ⟨g, (i + 1) * 4, none⟩ 1 vc lb cb hne 38 38 vcur.size (cap * 4) (by unfold World.shape?; rw [hvc]) (by unfold World.shape?; rw [hH]; simp [hcl]) (by omega) (hVf 0) (hVf _)]
    rfl
  have hm1 : Nat.min 1 (n + 1 - i) = 1 := by simp only [Nat.min_def]; split <;> omega
  have hm2 : Nat.min (n + 1 - i) (n - i) = n - i := by simp only [Nat.min_def]; split <;> omega
  have hdl : (xs.drop (i * 4)).length = n * 4 - i * 4 := by rw [List.length_drop, hxl]
  have hcpA : ∀ (W : World), (∀ x, W.cell? x = w.cell? x) → (∀ x, W.frozen? x = w.frozen? x) → ∀ ty dc sc, (Builtin.copy_ #[25, 25] ty #[.slice (some ⟨g, (i + 1) * 4, none⟩) (n - i) dc, .slice (some ⟨g, i * 4, none⟩) (n + 1 - i) sc]).run Try.prog W = .ok (goInt ((n - i : Nat) : Int)) (W.setCells g ((i + 1) * 4) (xs.drop (i * 4))) := fun W hWc hWf ty dc sc => by
    have := run_copy_wide (P := Try.prog) W 25 25 ty 38 4 g ((i + 1) * 4) (n - i) dc ⟨g, i * 4, none⟩ (n + 1 - i) sc (xs.drop (i * 4)) Try.underlying25 hsz (by rw [hdl, hm2]; omega)
      (fun j v hj => by
        rw [Addr.add_lit, hWc]
        have := hcs (i * 4 + j) v (by rwa [List.getElem?_drop] at hj)
        rwa [Addr.add_lit, Nat.zero_add] at this)
      (fun j hj => by rw [hWc]; exact hN _ (by omega))
      (fun j hj => by rw [hWf]; exact hNf _) (fun v hv => h1x v (List.mem_of_mem_drop hv))
    rw [hm2] at this
    exact this
  have hcpB : ∀ (W : World), (∀ x, W.cell? x = (w.drew.setCells g ((i + 1) * 4) (xs.drop (i * 4))).cell? x) → (∀ x, W.frozen? x = (w.drew.setCells g ((i + 1) * 4) (xs.drop (i * 4))).frozen? x) → ∀ ty dc, (Builtin.copy_ #[25, 25] ty #[.slice (some ⟨g, i * 4, none⟩) (n + 1 - i) dc, .slice (some ⟨vb, 0, none⟩) 1 vc]).run Try.prog W = .ok (goInt 1) (W.setCells g (i * 4) news) := fun W hWc hWf ty dc => by
    have := run_copy_wide (P := Try.prog) W 25 25 ty 38 4 g (i * 4) (n + 1 - i) dc ⟨vb, 0, none⟩ 1 vc news Try.underlying25 hsz (by rw [hm1]; omega)
      (fun j v hj => by
        rw [Addr.add_lit, hWc, World.cell?_setCells_out _ _ _ _ _ (fun h _ => absurd h hne)]
        have := hnews j v hj
        rw [Addr.add_lit] at this
        exact this)
      (fun j hj => by
        rw [hWc]
        exact isSome_setCells g (xs.drop (i * 4)) ((i + 1) * 4) w.drew (fun t ht => hN ((i + 1) * 4 + t) (by rw [hdl] at ht; omega)) (i * 4 + j) (hN (i * 4 + j) (by omega)))
      (fun j hj => by rw [hWf, World.frozen?_setCells]; exact hNf _) h1
    rwa [hm1] at this
  refine (insert_room_walk g n cap i vb vc w hi hn hroom (xs.drop (i * 4)) news hov hcpA hcpB).mono ?_
  rintro e w' ⟨rfl, rfl⟩
  have hlL : cur.toList.length = cap * 4 := by rw [Array.length_toList]; exact hcl
  have hH' : w.drew.heap[g]? = some (.cells cur.toList.toArray 38 (0, 0)) := hH
  have k1 := setCells_heap g 38 (0, 0) (xs.drop (i * 4)) ((i + 1) * 4) w.drew _ hH' (by rw [hdl, hlL]; omega)
  have k2 := setCells_heap g 38 (0, 0) news (i * 4) _ _ k1 (by simp only [List.length_append, List.length_take, List.length_drop, hlL, hl, hxl]; omega)
  rw [hl] at k2
  have hrow := ins_row cur.toList xs news (n * 4) (i * 4) htk (by omega) hl (by omega)
  rw [show i * 4 + 4 = (i + 1) * 4 by omega] at hrow
  rw [hdl, show i * 4 + 4 = (i + 1) * 4 by omega] at k2
  have hs : ∀ (b : Nat) (vs : List Value) (o : Nat) (w : World), (w.setCells b o vs).heap.size = w.heap.size := by
    intro b vs
    induction vs with
    | nil => intro o w; rfl
    | cons v r ih => intro o w; rw [World.setCells, ih]; simp [World.setCell]
  have ht : ∀ (b : Nat) (vs : List Value) (o : Nat) (w : World), (w.setCells b o vs).tape = w.tape := by
    intro b vs
    induction vs with
    | nil => intro o w; rfl
    | cons v r ih => intro o w; rw [World.setCells, ih]; rfl
  refine ⟨_, rfl, ⟨by rw [List.length_append, List.length_append, List.length_take, hdl]; omega, .inr ⟨g, cap, _, rfl, hbg, k2, hroom, hcm, ?_, ?_⟩⟩, ⟨?_, ?_, ?_, ?_, ?_⟩⟩
  · simp only [List.size_toArray, List.length_append, List.length_take, List.length_drop, hlL, hl, hxl]
    omega
  · rw [show (n + 1) * 4 = n * 4 + 4 by omega]
    exact hrow
  · rw [World.os_setCells, World.os_setCells]
    rfl
  · rw [ht, ht]
    rfl
  · rw [World.output_setCells, World.output_setCells]
    rfl
  · rw [hs, hs]
    exact Nat.le_refl _
  · intro k hk hkg
    have hkg2 : k ≠ g := fun h => hkg (by rw [h])
    rw [World.heap_setCells_other _ _ _ _ (by rw [hs]; exact hk) hkg2, World.heap_setCells_other _ _ _ _ (by exact hk) hkg2]
    rfl
/-- slices.Insert of one value, anywhere: the row grows by it, with room or without. -/
theorem insert_any (v : Value) (n i : Nat) (xs news : List Value) (base : Nat) (vb vc : Nat) (vcur : Array Value) (w : World) (hn : n ≤ 1000) (hi : i ≤ n) (hown : w.ownsRow base 38 4 v n xs) (hbase : base ≤ w.heap.size) (hne : v.ownBlock ≠ some vb)
    (hvc : w.heap[vb]? = some (.cells vcur 38 (0, 0)))
    (hl : news.length = 4) (hnews : ∀ j u, news[j]? = some u → w.cell? (Addr.add ⟨vb, 0, none⟩ j) = some u) (h1 : ∀ u ∈ news, u.oneCell' = true) (h1x : ∀ u ∈ xs, u.oneCell' = true) :
    Calls Try.prog 65 #[v, .int .i64 (i : Int), .slice (some ⟨vb, 0, none⟩) 1 vc] w fun e w' => ∃ v', e = .returned v' ∧ w'.ownsRow base 38 4 v' (n + 1) (xs.take (i * 4) ++ news ++ xs.drop (i * 4)) ∧ w.grownBy w' v.ownBlock := by
  by_cases h : i = n
  · subst h
    have hx : xs.take (i * 4) ++ news ++ xs.drop (i * 4) = xs ++ news := by
      rw [List.take_of_length_le (by rw [hown.1]; exact Nat.le_refl _), List.drop_eq_nil_of_le (by rw [hown.1]; exact Nat.le_refl _), List.append_nil]
    rw [hx]
    exact insert_end v i xs news base vb vc w hn hown hbase hl hnews h1
  · have hown2 := hown.2
    rcases hown2 with ⟨rfl, rfl⟩ | ⟨g, cap, cur, rfl, hbg, hh, hnc, hcm, hcs, htk⟩
    · omega
    · have hne2 : vb ≠ g := fun e => hne (by rw [e]; rfl)
      by_cases hroom : n + 1 ≤ cap
      · exact insert_mid_room g n cap i xs news base vb vc vcur w hn (by omega) hroom hown hne2 hvc hl hnews h1 h1x
      · exact insert_mid_full g n cap i xs news base vb vc w hn (by omega) (by omega) hown hbase hl hnews h1 h1x
end Go.Proofs.Ytelibndkkokadaa.GI
