-- Written by wip/tools/gprint.py over the kit's printer.
import Derived.Test.YtaiegjgbdfmfpaaDoorGL0
import Derived.Test.YtaiegjgbdfmfpaaDoorGL1
namespace Go.Proofs.YtaiegjgbdfmfpaaDoor.GL
open Go.RowKit Go.Proofs.YtaiegjgbdfmfpaaDoorW.PrintWords Go.Proofs.YtaiegjgbdfmfpaaDoorW.PrintLast Go.Proofs.YtaiegjgbdfmfpaaDoor.HandL Go.Proofs.YtaiegjgbdfmfpaaDoorW.PrintMore
attribute [local go_sem] max2_int min2_int max_two min_two max_three min_three max_four min_four   -- for this text's walks alone
set_option linter.unusedVariables false
set_option linter.unusedSimpArgs false

/-! ### num_Parse: function 52, given -/
/-- Is it a digit? -/
def isDig (c : UInt8) : Bool := 48 ≤ c.toNat && c.toNat ≤ 57
/-- The digits, one by one. -/
def num_Parse.go : List UInt8 → Int → Option (Int × Int)
  | [], n => some (n, 0)
  | c :: l, n => (num_Mul.f 1 n 10).bind fun t => if t.2 = 0 then (num_Add.f t.1 ((c.toNat : Int) - 48)).bind fun u => (if u.2 = 0 then num_Parse.go l u.1 else some (0, u.2)) else some (0, t.2)
def num_Parse.f (a0 : ByteArray) : Option (Int × Int) :=
  if a0.size > 9223372036854775807 then none else
  if a0.size = 0 then some (0, 12) else if bt a0 0 = 48 ∧ 1 < a0.size then some (0, 12) else
  if a0.data.toList.all isDig = true then num_Parse.go a0.data.toList 0 else some (0, 12)
theorem num_Parse.dig_at {s : ByteArray} (h : s.data.toList.all isDig = true) (i : Nat) (hi : i < s.size) : 48 ≤ (s[i]'hi).toNat ∧ (s[i]'hi).toNat ≤ 57 := by
  rw [List.all_eq_true] at h
  have := h (s[i]'hi) (by show (s.data[i]) ∈ s.data.toList; simp)
  simpa [isDig] using this
theorem num_Parse.take_all {s : ByteArray} (i : Nat) (hi : i < s.size) (h : (s.data.toList.take i).all isDig = true) (hd : isDig (s[i]'hi) = true) : (s.data.toList.take (i + 1)).all isDig = true := by
  rw [List.take_succ_eq_append_getElem (by simpa using hi), List.all_append, h, Bool.true_and, List.all_cons, List.all_nil, Bool.and_true]
  exact hd
theorem num_Parse.drop_at {s : ByteArray} (i : Nat) (hi : i < s.size) : s.data.toList.drop i = (s[i]'hi) :: s.data.toList.drop (i + 1) := by
  rw [List.drop_eq_getElem_cons (by simpa using hi)]
  rfl
set_option maxHeartbeats 2000000 in
theorem num_Parse.calls (a0 : ByteArray) (r1 : Int) (r2 : Int) (w : World) (h : num_Parse.f a0 = some (r1, r2)) :
    Calls Tryd.prog 52 #[.string a0] w fun e w' => e = .returned (.tuple #[.int .i64 r1, .int .i64 r2]) ∧ Below w.heap.size w w' := by
  unfold num_Parse.f at h
  by_cases hz : a0.size > 9223372036854775807
  · rw [if_pos hz] at h; cases h
  rw [if_neg hz] at h
  by_cases h0 : a0.size = 0
  · rw [if_pos h0] at h
    simp only [Option.some.injEq, Prod.mk.injEq] at h
    obtain ⟨rfl, rfl⟩ := h
    have : a0 = ByteArray.empty := by cases a0 with | mk d => simp [ByteArray.size] at h0; subst h0; rfl
    subst this
    clear hz h0
    go_enter Tryd.func52, Tryd.ntmps52
    go_wp2
    go_ret2
    exact ⟨rfl, Below.refl _ _⟩
  rw [if_neg h0] at h
  have hpos : 0 < a0.size := by omega
  have hb0 : ((a0[0]'hpos).toNat : Int) = bt a0 0 := by simp [bt, hpos]
  have he : a0.toList.isEmpty = false := by
    cases hl : a0.toList with
    | nil => have := congrArg List.length hl; rw [Lib.toList_data, Array.length_toList] at this; exact absurd this (show ¬ a0.size = 0 by omega)
    | cons _ _ => rfl
  have he2 : ¬ a0.toList = [] := by intro e; rw [e] at he; cases he
  by_cases h48 : bt a0 0 = 48 ∧ 1 < a0.size
  · rw [if_pos h48] at h
    simp only [Option.some.injEq, Prod.mk.injEq] at h
    obtain ⟨rfl, rfl⟩ := h
    have h1 : (((a0[0]'hpos).toNat : Int) == 48) = true := by rw [hb0]; simp [h48.1]
    have h2 : decide (1 < (a0.size : Int)) = true := decide_eq_true (by omega)
    clear hz h0 h48 hb0
    go_enter Tryd.func52, Tryd.ntmps52
    go_wp2
    go_ret2
    exact ⟨rfl, Below.refl _ _⟩
  rw [if_neg h48] at h
  have HH := Lib.hid h
  clear h
  have hsz : a0.size ≤ 9223372036854775807 := by omega
  have hcase : (((a0[0]'hpos).toNat : Int) == 48) = false ∨ ((((a0[0]'hpos).toNat : Int) == 48) = true ∧ decide (1 < (a0.size : Int)) = false) := by
    rw [hb0]
    by_cases e : bt a0 0 = 48
    · right
      exact ⟨by simp [e], decide_eq_false (fun e1 => h48 ⟨e, by omega⟩)⟩
    · left
      simpa using e
  clear hz h0 h48 hb0
  rcases hcase with h1 | ⟨h1, h2⟩
  all_goals
    go_enter Tryd.func52, Tryd.ntmps52
    go_wp2
    go_loopw [] (fun wr => ∃ pos : Nat, pos ≤ a0.size ∧ Hid ((a0.data.toList.take pos).all isDig = true) ∧ wr = w.iter a0 pos) (fun wr => a0.size - wr.iterPos w.heap.size)
    case atStart => exact ⟨0, by omega, Lib.hid rfl, rfl⟩
    case round =>
      obtain ⟨pos, hp, HD, rfl⟩ := hrel
      clear h1 he he2
      try clear h2
      by_cases hlt : pos < a0.size
      · have hge : 128 ≤ (a0[pos]'hlt).toNat ∨ (a0[pos]'hlt).toNat < 128 := by omega
        have hnx := fun ty => Lib.run_next_any_at (P := Tryd.prog) (w.iter a0 pos) w.heap.size a0 pos ty (World.iter_heap _ _ _) hlt
        have hset : (w.iter a0 pos).iterAt w.heap.size a0 (pos + (Utf8.decode a0 pos).2) = w.iter a0 (pos + (Utf8.decode a0 pos).2) := World.iter_set _ _ _ _
        rw [hset] at hnx
        clear hset
        have hdig : (48 ≤ ((Utf8.decode a0 pos).1 : Int) ∧ ((Utf8.decode a0 pos).1 : Int) ≤ 57) → isDig (a0[pos]'hlt) = true ∧ (Utf8.decode a0 pos).2 = 1 := by
          intro hc
          rcases hge with hg | hg
          · have := (decode_high a0 pos hlt hg).1
            omega
          · rw [decode_ascii a0 pos hlt hg] at hc ⊢
            exact ⟨by simp [isDig]; simp at hc; omega, rfl⟩
        have hno : ¬ (48 ≤ ((Utf8.decode a0 pos).1 : Int) ∧ ((Utf8.decode a0 pos).1 : Int) ≤ 57) → ¬ a0.data.toList.all isDig = true := by
          intro hc e
          have hd := num_Parse.dig_at e pos hlt
          rw [decode_ascii a0 pos hlt (by omega)] at hc
          exact hc ⟨by simp; omega, by simp; omega⟩
        obtain ⟨c, hc⟩ : ∃ c : Int, ((Utf8.decode a0 pos).1 : Int) = c := ⟨_, rfl⟩
        obtain ⟨q, hq⟩ : ∃ q : Nat, (Utf8.decode a0 pos).2 = q := ⟨_, rfl⟩
        rw [hc] at hnx hdig hno
        rw [hq] at hnx hdig
        clear hc hq hge
        by_cases hdg : 48 ≤ c ∧ c ≤ 57
        · obtain ⟨hd1, rfl⟩ := hdig hdg
          have HD2 := Lib.hid (num_Parse.take_all pos hlt HD.out hd1)
          have hc1 := hdg.1
          have hc2 := hdg.2
          clear hdg HD hd1 hno hdig
          go_wp2
          go_roundw
          case rel => exact ⟨pos + 1, by omega, HD2, rfl⟩
          case measure => simp only [World.iterPos_iter]; omega
        · have h12 := HH.out
          rw [if_neg (hno hdg)] at h12
          simp only [Option.some.injEq, Prod.mk.injEq] at h12
          obtain ⟨rfl, rfl⟩ := h12
          clear HH HD hno hdig
          go_wp2
          all_goals
            go_ret2
            exact ⟨rfl, (Below.refl _ _).alloc (Nat.le_refl _) _⟩
      · obtain rfl : pos = a0.size := by omega
        have hall : a0.data.toList.all isDig = true := by
          have := HD.out
          rwa [List.take_of_length_le (by simp)] at this
        have h12 := HH.out
        rw [if_pos hall] at h12
        have HG := Lib.hid h12
        have HA := Lib.hid hall
        have hbw : Below w.heap.size w (w.iter a0 a0.size) := (Below.refl _ _).alloc (Nat.le_refl _) _
        have hnx := fun ty => Lib.run_next_end_at (P := Tryd.prog) (w.iter a0 a0.size) w.heap.size a0 a0.size ty (World.iter_heap _ _ _) hlt
        clear HD HH h12 hall hlt hp
        obtain ⟨wo, hwo⟩ : ∃ wo : World, wo = w.iter a0 a0.size := ⟨_, rfl⟩
        rw [← hwo] at hnx hbw ⊢
        have HW := Lib.hid hwo
        clear hwo
        go_wp2
        go_loopw [6] (fun n wr => ∃ (pos : Nat) (m : Int), pos ≤ a0.size ∧ n = .int .i64 m ∧ Hid (num_Parse.go (a0.data.toList.drop pos) m = some (r1, r2)) ∧ Hid (wr.heap[wo.heap.size]? = some (.stringIter a0 pos)) ∧ Below wo.heap.size wo wr) (fun _ wr => a0.size - wr.iterPos wo.heap.size)
        case atStart => exact ⟨0, 0, by omega, rfl, by rw [List.drop_zero]; exact HG, Lib.hid (World.iter_heap _ _ _), (Below.refl _ _).alloc (Nat.le_refl _) _⟩
        case round =>
          obtain ⟨pos, m, hp, rfl, HGo, hit, hb⟩ := hrel
          clear hnx HG
          have hmeas : wr.iterPos wo.heap.size = pos := by simp [World.iterPos, hit.out]
          have HM := Lib.hid hmeas
          clear hmeas
          by_cases hlt : pos < a0.size
          · have hdg := num_Parse.dig_at HA.out pos hlt
            have hnx := fun ty => Lib.run_next_ascii_at (P := Tryd.prog) wr wo.heap.size a0 pos ty hit.out hlt (by omega)
            have hit2 := Lib.hid (Lib.iterAt_heap wr wo.heap.size a0 pos (pos + 1) hit.out)
            have hb2 := Lib.below_iterAt hb (k := wo.heap.size) (Nat.le_refl _) a0 (pos + 1)
            have hgo := HGo.out
            rw [num_Parse.drop_at pos hlt] at hgo
            simp only [num_Parse.go] at hgo
            clear hit hb HGo
            generalize wr.iterAt wo.heap.size a0 (pos + 1) = wn at hnx hit2 hb2
            obtain ⟨c, hc⟩ : ∃ c : Int, ((a0[pos]'hlt).toNat : Int) = c := ⟨_, rfl⟩
            rw [hc] at hnx hgo
            have hc1 : 48 ≤ c := by omega
            have hc2 : c ≤ 57 := by omega
            clear hc hdg
            obtain ⟨⟨t1, t2⟩, hA, hgo⟩ := Option.bind_eq_some_iff.mp hgo
            have HA2 := Lib.hid hA
            clear hA
            by_cases ht : t2 = 0
            · subst ht
              rw [if_pos rfl] at hgo
              obtain ⟨⟨u1, u2⟩, hA, hgo⟩ := Option.bind_eq_some_iff.mp hgo
              have HA3 := Lib.hid hA
              clear hA
              by_cases hu : u2 = 0
              · subst hu
                rw [if_pos rfl] at hgo
                have HG2 := Lib.hid hgo
                clear hgo
                go_wp2_with (first | (go_at_call 61; (with_reducible refine (num_Mul.calls 1 m 10 t1 0 _ HA2.out).mono ?_); rintro e w' ⟨rfl, ⟨nd, rfl⟩⟩) | (go_at_call 62; (with_reducible refine (num_Add.calls t1 (c - 48) u1 0 _ HA3.out).mono ?_); rintro e w' ⟨rfl, ⟨nd, rfl⟩⟩))
                go_roundw
                case rel => exact ⟨pos + 1, u1, by omega, rfl, HG2, Lib.hid hit2.out, by repeat (first | exact hb2 | apply pw_below_drewN)⟩
                case measure =>
                  have := HM.out
                  have h3 := hit2.out
                  simp only [World.iterPos] at *
                  simp [h3, this]
                  omega
              · rw [if_neg hu] at hgo
                simp only [Option.some.injEq, Prod.mk.injEq] at hgo
                obtain ⟨rfl, rfl⟩ := hgo
                have hu2 : (u2 != 0) = true := bne_iff_ne.mpr hu
                clear hu
                go_wp2_with (first | (go_at_call 61; (with_reducible refine (num_Mul.calls 1 m 10 t1 0 _ HA2.out).mono ?_); rintro e w' ⟨rfl, ⟨nd, rfl⟩⟩) | (go_at_call 62; (with_reducible refine (num_Add.calls t1 (c - 48) u1 u2 _ HA3.out).mono ?_); rintro e w' ⟨rfl, ⟨nd, rfl⟩⟩))
                go_ret2
                exact ⟨rfl, hbw.trans (Below.mono (by repeat (first | exact hb2 | apply pw_below_drewN)) hbw.size)⟩
            · rw [if_neg ht] at hgo
              simp only [Option.some.injEq, Prod.mk.injEq] at hgo
              obtain ⟨rfl, rfl⟩ := hgo
              have ht2 : (t2 != 0) = true := bne_iff_ne.mpr ht
              clear ht
              go_wp2_with (first | (go_at_call 61; (with_reducible refine (num_Mul.calls 1 m 10 t1 t2 _ HA2.out).mono ?_); rintro e w' ⟨rfl, ⟨nd, rfl⟩⟩))
              go_ret2
              exact ⟨rfl, hbw.trans (Below.mono (by repeat (first | exact hb2 | apply pw_below_drewN)) hbw.size)⟩
          · obtain rfl : pos = a0.size := by omega
            have hgo := HGo.out
            rw [List.drop_of_length_le (by simp)] at hgo
            simp only [num_Parse.go, Option.some.injEq, Prod.mk.injEq] at hgo
            obtain ⟨rfl, rfl⟩ := hgo
            have hnx := fun ty => Lib.run_next_end_at (P := Tryd.prog) wr wo.heap.size a0 a0.size ty hit.out hlt
            go_wp2
            go_ret2
            exact ⟨rfl, hbw.trans (Below.mono hb hbw.size)⟩

/-! ### lex_long: function 43, given -/
def lex_long.n (a0 : ByteArray) : Nat := rowL isFig a0.data.toList
def lex_long.f (a0 : ByteArray) : Option (Int × ByteArray × Int × Int × Int × Int) :=
  if a0.size < 1099511627776 then (num_Parse.f (a0.extract 0 (lex_long.n a0))).bind fun t => some (2, (⟨#[]⟩ : ByteArray), t.1, 0, ((lex_long.n a0 : Nat) : Int), t.2) else none
set_option maxHeartbeats 2000000 in
theorem lex_long.row (a0 : ByteArray) (w : World) (hs : a0.size < 1099511627776) :
    Calls Tryd.prog 50 #[.string a0, .func (.func 30) #[] #[]] w fun e w' => e = .returned (.int .i64 ((lex_long.n a0 : Nat) : Int)) ∧ Drawn0 w w' := by
  unfold lex_long.n
  have hsz : a0.data.toList.length = a0.size := by rw [Array.length_toList]; rfl
  go_enter Tryd.func50, Tryd.ntmps50
  go_wp2
  go_loopw [5] (fun v wr => ∃ n : Nat, v = .int .i64 ((n : Nat) : Int) ∧ Aside0 (Drawn0 w wr) ∧ n ≤ a0.size ∧ n + rowL isFig (a0.data.toList.drop n) = rowL isFig a0.data.toList) (fun v _ => match v with | .int _ z => a0.size - z.toNat | _ => 0)
  case atStart => exact ⟨0, rfl, ⟨Drawn0.refl _⟩, Nat.zero_le _, by simp⟩
  case round =>
    obtain ⟨n, rfl, HD, hn, hr⟩ := hrel
    by_cases hp : n < a0.size
    · obtain ⟨c, hc⟩ : ∃ c, a0[n]'hp = c := ⟨_, rfl⟩
      have hd : a0.data.toList.drop n = c :: a0.data.toList.drop (n + 1) := by
        rw [List.drop_eq_getElem_cons (by omega), ← hc]
        rfl
      rw [hd, rowL] at hr
      cases hpc : isFig c with
      | true =>
        rw [hpc, if_pos rfl] at hr
        go_wp2_with (go_at_call 30; refine (lex_digit.calls _ _ _ (lex_name.digit c)).mono ?_; rintro e w' ⟨rfl, ⟨nd, rfl⟩⟩)
        go_roundw
        case rel => exact ⟨n + 1, rfl, ⟨by repeat (first | exact HD.out | apply Drawn0.step)⟩, by omega, by omega⟩
        case measure => simp; omega
      | false =>
        rw [hpc, if_neg (by decide)] at hr
        go_wp2_with (go_at_call 30; refine (lex_digit.calls _ _ _ (lex_name.digit c)).mono ?_; rintro e w' ⟨rfl, ⟨nd, rfl⟩⟩)
        go_ret
        exact ⟨by rw [← hr]; rfl, by repeat (first | exact HD.out | apply Drawn0.step)⟩
    · rw [List.drop_of_length_le (by omega), rowL] at hr
      go_wp2
      go_ret
      exact ⟨by rw [← hr]; rfl, HD.out⟩
theorem lex_long.calls (a0 : ByteArray) (r1 : Int) (r2 : ByteArray) (r3 : Int) (r4 : Int) (r5 : Int) (r6 : Int) (w : World) (h : lex_long.f a0 = some (r1, r2, r3, r4, r5, r6)) :
    Calls Tryd.prog 43 #[.string a0] w fun e w' => e = .returned (.tuple #[.agg #[.int .i64 r1, .string r2, .int .i64 r3, .int .i64 r4], .int .i64 r5, .int .i64 r6]) ∧ Below w.heap.size w w' := by
  unfold lex_long.f at h
  by_cases hs : a0.size < 1099511627776
  case neg => rw [if_neg hs] at h; cases h
  rw [if_pos hs] at h
  have hrow := fun W => lex_long.row a0 W hs
  have HB := Aside0.mk (Below.refl w.heap.size w)
  obtain ⟨⟨t1, t2⟩, hp, h⟩ := Option.bind_eq_some_iff.mp h
  simp only [Option.some.injEq, Prod.mk.injEq] at h
  obtain ⟨rfl, rfl, rfl, rfl, rfl, rfl⟩ := h
  have hle : lex_long.n a0 ≤ a0.size := by
    have hsz : a0.data.toList.length = a0.size := by rw [Array.length_toList]; rfl
    rw [← hsz]
    exact lex_name.le _ _
  generalize lex_long.n a0 = n at hrow hp hle
  go_enter Tryd.func43, Tryd.ntmps43
  go_wp2_with (first | ((with_reducible refine gate_dst (N := 2) rfl ?_); (try (refine gate_guard (by rfl) ?_; dsimp only)); refine box_event ?hg (N := 2) ?hd (cs := #[.int .i64 0, .string (⟨#[]⟩ : ByteArray), .int .i64 0, .int .i64 0]) (t := 35) ?hr ?_; (case hd => rfl); (case hg => rfl); (case hr => first | (go_simp; done) | (go_simp; rfl)); intro gb hg w6 hbox hb; have n0_ := Aside0.mk (below_step HB.out hb); have BK := Aside0.mk hbox; have GE := Aside0.mk (by rw [hg]; exact (below_size HB.out) : w.heap.size ≤ gb); clear HB; have HB := n0_; clear n0_; clear hb hbox hg) | (go_at_call 50; refine (hrow _).mono ?_; rintro e w' ⟨rfl, ⟨nd, rfl⟩⟩) | (go_at_call 52; refine (num_Parse.calls _ _ _ _ hp).mono ?_; rintro e w7 ⟨rfl, hb⟩; have n0_ := Aside0.mk (blk_below (g := gb) (o := .cells #[.int .i64 0, .string (⟨#[]⟩ : ByteArray), .int .i64 0, .int .i64 0] 35 (0, 0)) (by (with_reducible repeat (first | refine blk_drewN ?_ _ | refine blk_drew ?_ | refine blk_alloc ?_ _)); exact BK.out) hb); have n1_ := Aside0.mk (below_step (by repeat (first | (with_reducible first | exact HB.out | apply below_alloc | apply pw_below_drewN | apply below_drew1 | refine below_set ?_ GE.out) | exact HB.out)) hb); clear BK; clear HB; have BK := n0_; have HB := n1_; clear n0_ n1_ hb; have hcz0 : w7.cell? ⟨gb, 0, none⟩ = some (.int .i64 0) := (blk_cell BK.out 0).trans rfl; have hcz1 : w7.cell? ⟨gb, 1, none⟩ = some (.string (⟨#[]⟩ : ByteArray)) := (blk_cell BK.out 1).trans rfl; have hcz2 : w7.cell? ⟨gb, 2, none⟩ = some (.int .i64 0) := (blk_cell BK.out 2).trans rfl; have hcz3 : w7.cell? ⟨gb, 3, none⟩ = some (.int .i64 0) := (blk_cell BK.out 3).trans rfl; have hfz0 := blk_frozen BK.out 0; have hfz1 := blk_frozen BK.out 1; have hfz2 := blk_frozen BK.out 2; have hfz3 := blk_frozen BK.out 3))
  refine bodyPost_ret (results_ctt rfl _ _ gb 35 #[.int .i64 2, .string (⟨#[]⟩ : ByteArray), .int .i64 t1, .int .i64 0] (0, 0) _ rfl (by (with_reducible repeat (first | refine blk_drewN ?_ _ | refine blk_drew ?_ | refine blk_alloc ?_ _)); refine blk_put (cs := #[.int .i64 2, .string (⟨#[]⟩ : ByteArray), .int .i64 t1, .int .i64 0]) ?_ 3 _ rfl; (with_reducible repeat (first | refine blk_drewN ?_ _ | refine blk_drew ?_ | refine blk_alloc ?_ _)); refine blk_put (cs := #[.int .i64 2, .string (⟨#[]⟩ : ByteArray), .int .i64 0, .int .i64 0]) ?_ 2 _ rfl; (with_reducible repeat (first | refine blk_drewN ?_ _ | refine blk_drew ?_ | refine blk_alloc ?_ _)); refine blk_put (cs := #[.int .i64 2, .string (⟨#[]⟩ : ByteArray), .int .i64 0, .int .i64 0]) ?_ 1 _ rfl; (with_reducible repeat (first | refine blk_drewN ?_ _ | refine blk_drew ?_ | refine blk_alloc ?_ _)); refine blk_put (cs := #[.int .i64 0, .string (⟨#[]⟩ : ByteArray), .int .i64 0, .int .i64 0]) ?_ 0 _ rfl; (with_reducible repeat (first | refine blk_drewN ?_ _ | refine blk_drew ?_ | refine blk_alloc ?_ _)); exact BK.out) Tryd.underlying35 rfl (by kernel_rfl)) rfl ?_
  exact ⟨rfl, by repeat (first | (with_reducible first | exact HB.out | apply below_alloc | apply pw_below_drewN | apply below_drew1 | refine below_set ?_ GE.out) | exact HB.out)⟩

/-! ### text_hex: function 75 -/
mutual
def text_hex.j0 : Nat → Int → Bool → Option (Int)
  | 0, _, _ => none
  | k + 1, x0, x3 => if x3 = true then (some ((x0 - 48) % 256)) else (if x0 ≥ 97 then (text_hex.j1 k x0 (decide (x0 ≤ 102))) else (text_hex.j1 k x0 false))
def text_hex.j1 : Nat → Int → Bool → Option (Int)
  | 0, _, _ => none
  | k + 1, x0, x13 => if x13 = true then (some (((x0 - 97) % 256) + 10)) else (if x0 ≥ 65 then (if x0 ≤ 70 then (some (((x0 - 65) % 256) + 10)) else (some (-1))) else (some (-1)))
end
def text_hex.f (k : Nat) (a0 : Int) : Option (Int) := if a0 ≥ 48 then (text_hex.j0 k a0 (decide (a0 ≤ 57))) else (text_hex.j0 k a0 false)
theorem text_hex.mono_l : ∀ k, (∀ y0 y1, LeO (text_hex.j0 k y0 y1) (text_hex.j0 (k + 1) y0 y1)) ∧ (∀ y0 y1, LeO (text_hex.j1 k y0 y1) (text_hex.j1 (k + 1) y0 y1))
  | 0 => ⟨fun _ _ r h => by simp [text_hex.j0] at h, fun _ _ r h => by simp [text_hex.j1] at h⟩
  | k + 1 => by
    obtain ⟨ih0, ih1⟩ := text_hex.mono_l k
    refine ⟨?_, ?_⟩
    · intro y0 y1
      unfold text_hex.j0
      repeat' first
      | (with_reducible exact ih0 _ _)
      | (with_reducible exact ih1 _ _)
      | (with_reducible exact LeO.refl _)
      | (with_reducible exact LeO.none _)
      | (with_reducible refine LeO.ite ?_ ?_)
      | (with_reducible refine LeO.bind ?_ (fun _ => ?_))
      | exact ih0 _ _
      | exact ih1 _ _
      | exact LeO.none _
      | refine LeO.ite ?_ ?_
      | refine LeO.bind ?_ (fun _ => ?_)
    · intro y0 y1
      unfold text_hex.j1
      repeat' first
      | (with_reducible exact ih0 _ _)
      | (with_reducible exact ih1 _ _)
      | (with_reducible exact LeO.refl _)
      | (with_reducible exact LeO.none _)
      | (with_reducible refine LeO.ite ?_ ?_)
      | (with_reducible refine LeO.bind ?_ (fun _ => ?_))
      | exact ih0 _ _
      | exact ih1 _ _
      | exact LeO.none _
      | refine LeO.ite ?_ ?_
      | refine LeO.bind ?_ (fun _ => ?_)
theorem text_hex.mono : ∀ a0 k, LeO (text_hex.f k a0) (text_hex.f (k + 1) a0) := by
  intro a0 k
  obtain ⟨ih0, ih1⟩ := text_hex.mono_l k
  unfold text_hex.f
  repeat' first
      | (with_reducible exact ih0 _ _)
      | (with_reducible exact ih1 _ _)
      | (with_reducible exact LeO.refl _)
      | (with_reducible exact LeO.none _)
      | (with_reducible refine LeO.ite ?_ ?_)
      | (with_reducible refine LeO.bind ?_ (fun _ => ?_))
      | exact ih0 _ _
      | exact ih1 _ _
      | exact LeO.none _
      | refine LeO.ite ?_ ?_
      | refine LeO.bind ?_ (fun _ => ?_)
set_option maxHeartbeats 8000000 in
set_option maxRecDepth 100000 in
theorem text_hex.calls (k : Nat) (a0 : Int) (r : Int) (w : World) (h : text_hex.f k a0 = some r) :
    Calls Tryd.prog 75 #[.int .u8 a0] w fun e w' => e = .returned (.int .i64 r) ∧ Drawn0 w w' := by
  have H : (if a0 ≥ 48 then (text_hex.j0 k a0 (decide (a0 ≤ 57))) else (text_hex.j0 k a0 false)) = some r := h
  clear h
  have HC2 := Aside0.mk H
  clear H
  go_enter Tryd.func75, Tryd.ntmps75
  go_upto_region 1 with (fail)
  go_cut [3] (fun v3 wc => ∃ (kq : Nat) (x3_1 : Bool), v3 = .bool x3_1 ∧ Aside0 (text_hex.j0 kq a0 x3_1 = some r) ∧ Aside0 (kq ≤ k) ∧ Drawn0 w wc)
  case first =>
    have H := HC2.out
    clear HC2
    by_cases c3 : a0 ≥ 48
    · rw [if_pos c3] at H
      have c3b0 : decide (48 ≤ a0) = true := decide_eq_true c3
      clear c3
      (first | rw [c3b0] | (simp only [i64_w, i32_w]; rw [c3b0]) | skip)
      have H' := Aside0.mk H
      clear H
      go_wp2
      go_meet
      case rel => exact ⟨_, (decide (a0 ≤ 57)), (by first | rfl | (simp; done) | (simp [*]; done)), H', ⟨by first | omega | exact Nat.le_refl _⟩, by repeat (first | exact Drawn0.refl _ | apply Drawn0.step)⟩
    · rw [if_neg c3] at H
      have c3b0 : decide (48 ≤ a0) = false := decide_eq_false c3
      clear c3
      (first | rw [c3b0] | (simp only [i64_w, i32_w]; rw [c3b0]) | skip)
      have H' := Aside0.mk H
      clear H
      go_wp2
      go_meet
      case rel => exact ⟨_, (false), (by first | rfl | (simp; done) | (simp [*]; done)), H', ⟨by first | omega | exact Nat.le_refl _⟩, by repeat (first | exact Drawn0.refl _ | apply Drawn0.step)⟩
  case rest =>
    clear HC2
    try clear p2
    try clear c3
    try clear c3b0
    obtain ⟨kq, x3_1, rfl, HA, HJ1, ⟨mc1, rfl⟩⟩ := hcut
    cases kq with
    | zero => exact absurd HA.out (by simp [text_hex.j0])
    | succ kj1 =>
      have H := HA.out
      clear HA
      simp only [text_hex.j0] at H
      by_cases c4 : x3_1 = true
      · subst c4
        have H1 : (some ((a0 - 48) % 256)) = some r := by rw [if_pos rfl] at H; exact H
        clear H
        have H := H1
        clear H1
        obtain rfl := Option.some.inj H
        go_wp2
        go_ret
        exact ⟨by first | rfl | (simp; done) | (simp [*]; done), by repeat (first | exact Drawn0.refl _ | apply Drawn0.step)⟩
      · replace c4 := Bool.eq_false_iff.mpr c4
        subst c4
        have H1 : (if a0 ≥ 97 then (text_hex.j1 kj1 a0 (decide (a0 ≤ 102))) else (text_hex.j1 kj1 a0 false)) = some r := by rw [if_neg (show ¬ (false = true) by decide)] at H; exact H
        clear H
        have H := H1
        clear H1
        have HC5 := Aside0.mk H
        clear H
        go_upto_region 3 with (fail)
        go_cut [13] (fun v13 wc => ∃ (kq : Nat) (x13_4 : Bool), v13 = .bool x13_4 ∧ Aside0 (text_hex.j1 kq a0 x13_4 = some r) ∧ Aside0 (kq ≤ kj1) ∧ Drawn0 w wc)
        case first =>
          have H := HC5.out
          clear HC5
          by_cases c6 : a0 ≥ 97
          · rw [if_pos c6] at H
            have c6b0 : decide (97 ≤ a0) = true := decide_eq_true c6
            clear c6
            (first | rw [c6b0] | (simp only [i64_w, i32_w]; rw [c6b0]) | skip)
            have H' := Aside0.mk H
            clear H
            go_wp2
            go_meet
            case rel => exact ⟨_, (decide (a0 ≤ 102)), (by first | rfl | (simp; done) | (simp [*]; done)), H', ⟨by have := HJ1.out; first | omega | exact Nat.le_refl _⟩, by repeat (first | exact Drawn0.refl _ | apply Drawn0.step)⟩
          · rw [if_neg c6] at H
            have c6b0 : decide (97 ≤ a0) = false := decide_eq_false c6
            clear c6
            (first | rw [c6b0] | (simp only [i64_w, i32_w]; rw [c6b0]) | skip)
            have H' := Aside0.mk H
            clear H
            go_wp2
            go_meet
            case rel => exact ⟨_, (false), (by first | rfl | (simp; done) | (simp [*]; done)), H', ⟨by have := HJ1.out; first | omega | exact Nat.le_refl _⟩, by repeat (first | exact Drawn0.refl _ | apply Drawn0.step)⟩
        case rest =>
          clear HC5
          try clear c1
          try clear p2
          try clear c3
          try clear c3b0
          try clear c4
          try clear c6
          try clear c6b0
          try clear p2
          obtain ⟨kq, x13_4, rfl, HA, HJ4, ⟨mc4, rfl⟩⟩ := hcut
          cases kq with
          | zero => exact absurd HA.out (by simp [text_hex.j1])
          | succ kj4 =>
            have H := HA.out
            clear HA
            simp only [text_hex.j1] at H
            by_cases c7 : x13_4 = true
            · subst c7
              have H1 : (some (((a0 - 97) % 256) + 10)) = some r := by rw [if_pos rfl] at H; exact H
              clear H
              have H := H1
              clear H1
              obtain rfl := Option.some.inj H
              go_wp2
              go_ret
              exact ⟨by first | rfl | (simp; done) | (simp [*]; done), by repeat (first | exact Drawn0.refl _ | apply Drawn0.step)⟩
            · replace c7 := Bool.eq_false_iff.mpr c7
              subst c7
              have H1 : (if a0 ≥ 65 then (if a0 ≤ 70 then (some (((a0 - 65) % 256) + 10)) else (some (-1))) else (some (-1))) = some r := by rw [if_neg (show ¬ (false = true) by decide)] at H; exact H
              clear H
              have H := H1
              clear H1
              by_cases c8 : a0 ≥ 65
              · rw [if_pos c8] at H
                have c8b0 : decide (65 ≤ a0) = true := decide_eq_true c8
                clear c8
                by_cases c9 : a0 ≤ 70
                · rw [if_pos c9] at H
                  have c9b0 : decide (a0 ≤ 70) = true := decide_eq_true c9
                  clear c9
                  obtain rfl := Option.some.inj H
                  go_wp2
                  go_ret
                  exact ⟨by first | rfl | (simp; done) | (simp [*]; done), by repeat (first | exact Drawn0.refl _ | apply Drawn0.step)⟩
                · rw [if_neg c9] at H
                  have c9b0 : decide (a0 ≤ 70) = false := decide_eq_false c9
                  clear c9
                  obtain rfl := Option.some.inj H
                  go_wp2
                  go_ret
                  exact ⟨by first | rfl | (simp; done) | (simp [*]; done), by repeat (first | exact Drawn0.refl _ | apply Drawn0.step)⟩
              · rw [if_neg c8] at H
                have c8b0 : decide (65 ≤ a0) = false := decide_eq_false c8
                clear c8
                obtain rfl := Option.some.inj H
                go_wp2
                go_ret
                exact ⟨by first | rfl | (simp; done) | (simp [*]; done), by repeat (first | exact Drawn0.refl _ | apply Drawn0.step)⟩

/-! ### utf8_ValidRune: function 76 -/
def utf8_ValidRune.j0 : Nat → Int → Bool → Option (Bool)
  | 0, _, _ => none
  | k + 1, x0, x3 => if x3 = true then (some true) else (if 57343 < x0 then (if x0 ≤ 1114111 then (some true) else (some false)) else (some false))
def utf8_ValidRune.f (k : Nat) (a0 : Int) : Option (Bool) := if 0 ≤ a0 then (utf8_ValidRune.j0 k a0 (decide (a0 < 55296))) else (utf8_ValidRune.j0 k a0 false)
theorem utf8_ValidRune.mono_l : ∀ k, (∀ y0 y1, LeO (utf8_ValidRune.j0 k y0 y1) (utf8_ValidRune.j0 (k + 1) y0 y1))
  | 0 => fun _ _ r h => by simp [utf8_ValidRune.j0] at h
  | k + 1 => by
    have ih0 := utf8_ValidRune.mono_l k
    · intro y0 y1
      unfold utf8_ValidRune.j0
      repeat' first
      | (with_reducible exact ih0 _ _)
      | (with_reducible exact LeO.refl _)
      | (with_reducible exact LeO.none _)
      | (with_reducible refine LeO.ite ?_ ?_)
      | (with_reducible refine LeO.bind ?_ (fun _ => ?_))
      | exact ih0 _ _
      | exact LeO.none _
      | refine LeO.ite ?_ ?_
      | refine LeO.bind ?_ (fun _ => ?_)
theorem utf8_ValidRune.mono : ∀ a0 k, LeO (utf8_ValidRune.f k a0) (utf8_ValidRune.f (k + 1) a0) := by
  intro a0 k
  have ih0 := utf8_ValidRune.mono_l k
  unfold utf8_ValidRune.f
  repeat' first
      | (with_reducible exact ih0 _ _)
      | (with_reducible exact LeO.refl _)
      | (with_reducible exact LeO.none _)
      | (with_reducible refine LeO.ite ?_ ?_)
      | (with_reducible refine LeO.bind ?_ (fun _ => ?_))
      | exact ih0 _ _
      | exact LeO.none _
      | refine LeO.ite ?_ ?_
      | refine LeO.bind ?_ (fun _ => ?_)
set_option maxHeartbeats 8000000 in
set_option maxRecDepth 100000 in
theorem utf8_ValidRune.calls (k : Nat) (a0 : Int) (r : Bool) (w : World) (h : utf8_ValidRune.f k a0 = some r) :
    Calls Tryd.prog 76 #[.int .i32 a0] w fun e w' => e = .returned (.bool r) ∧ Drawn0 w w' := by
  have H : (if 0 ≤ a0 then (utf8_ValidRune.j0 k a0 (decide (a0 < 55296))) else (utf8_ValidRune.j0 k a0 false)) = some r := h
  clear h
  have HC2 := Aside0.mk H
  clear H
  go_enter Tryd.func76, Tryd.ntmps76
  go_upto_region 1 with (fail)
  go_cut [3] (fun v3 wc => ∃ (kq : Nat) (x3_1 : Bool), v3 = .bool x3_1 ∧ Aside0 (utf8_ValidRune.j0 kq a0 x3_1 = some r) ∧ Aside0 (kq ≤ k) ∧ Drawn0 w wc)
  case first =>
    have H := HC2.out
    clear HC2
    by_cases c3 : 0 ≤ a0
    · rw [if_pos c3] at H
      have c3b0 : decide (0 ≤ a0) = true := decide_eq_true c3
      clear c3
      (first | rw [c3b0] | (simp only [i64_w, i32_w]; rw [c3b0]) | skip)
      have H' := Aside0.mk H
      clear H
      go_wp2
      go_meet
      case rel => exact ⟨_, (decide (a0 < 55296)), (by first | rfl | (simp; done) | (simp [*]; done)), H', ⟨by first | omega | exact Nat.le_refl _⟩, by repeat (first | exact Drawn0.refl _ | apply Drawn0.step)⟩
    · rw [if_neg c3] at H
      have c3b0 : decide (0 ≤ a0) = false := decide_eq_false c3
      clear c3
      (first | rw [c3b0] | (simp only [i64_w, i32_w]; rw [c3b0]) | skip)
      have H' := Aside0.mk H
      clear H
      go_wp2
      go_meet
      case rel => exact ⟨_, (false), (by first | rfl | (simp; done) | (simp [*]; done)), H', ⟨by first | omega | exact Nat.le_refl _⟩, by repeat (first | exact Drawn0.refl _ | apply Drawn0.step)⟩
  case rest =>
    clear HC2
    try clear p2
    try clear c3
    try clear c3b0
    obtain ⟨kq, x3_1, rfl, HA, HJ1, ⟨mc1, rfl⟩⟩ := hcut
    cases kq with
    | zero => exact absurd HA.out (by simp [utf8_ValidRune.j0])
    | succ kj1 =>
      have H := HA.out
      clear HA
      simp only [utf8_ValidRune.j0] at H
      by_cases c4 : x3_1 = true
      · subst c4
        have H1 : (some true) = some r := by rw [if_pos rfl] at H; exact H
        clear H
        have H := H1
        clear H1
        obtain rfl := Option.some.inj H
        go_wp2
        go_ret
        exact ⟨by first | rfl | (simp; done) | (simp [*]; done), by repeat (first | exact Drawn0.refl _ | apply Drawn0.step)⟩
      · replace c4 := Bool.eq_false_iff.mpr c4
        subst c4
        have H1 : (if 57343 < a0 then (if a0 ≤ 1114111 then (some true) else (some false)) else (some false)) = some r := by rw [if_neg (show ¬ (false = true) by decide)] at H; exact H
        clear H
        have H := H1
        clear H1
        by_cases c5 : 57343 < a0
        · rw [if_pos c5] at H
          have c5b0 : decide (57343 < a0) = true := decide_eq_true c5
          clear c5
          by_cases c6 : a0 ≤ 1114111
          · rw [if_pos c6] at H
            have c6b0 : decide (a0 ≤ 1114111) = true := decide_eq_true c6
            clear c6
            obtain rfl := Option.some.inj H
            go_wp2
            go_ret
            exact ⟨by first | rfl | (simp; done) | (simp [*]; done), by repeat (first | exact Drawn0.refl _ | apply Drawn0.step)⟩
          · rw [if_neg c6] at H
            have c6b0 : decide (a0 ≤ 1114111) = false := decide_eq_false c6
            clear c6
            obtain rfl := Option.some.inj H
            go_wp2
            go_ret
            exact ⟨by first | rfl | (simp; done) | (simp [*]; done), by repeat (first | exact Drawn0.refl _ | apply Drawn0.step)⟩
        · rw [if_neg c5] at H
          have c5b0 : decide (57343 < a0) = false := decide_eq_false c5
          clear c5
          obtain rfl := Option.some.inj H
          go_wp2
          go_ret
          exact ⟨by first | rfl | (simp; done) | (simp [*]; done), by repeat (first | exact Drawn0.refl _ | apply Drawn0.step)⟩

end Go.Proofs.YtaiegjgbdfmfpaaDoor.GL
