import Derived.Test.YtapccgkkcgggiaaDoorReadLibB2
import Derived.Test.YtapccgkkcgggiaaDoorGB7
import Derived.Test.YtapccgkkcgggiaaDoorGB8
namespace Go.Proofs.YtapccgkkcgggiaaDoor.Pure
open Go.RowKit Go.Proofs.YtapccgkkcgggiaaDoor.GB Go.Proofs.YtapccgkkcgggiaaDoor.HandB Go.Proofs.YtapccgkkcgggiaaDoorW.PrintWords Go.Proofs.YtapccgkkcgggiaaDoorW.PrintLast
theorem bt_pos (s : ByteArray) (pos j : Nat) (h : pos + j < s.size) : bt s ((pos + j : Nat) : Int) = ((at_ (s.data.toList.drop pos) j : Nat) : Int) := bt_drop s pos j h
theorem escape_l0 (s : ByteArray) (hs : s.size ≤ 1000000) (pos : Nat) : ∀ (m i v k : Nat), i + m = 6 → pos + 3 + i ≤ s.size → v < 16 ^ i → ∃ k', k ≤ k' ∧
    chancelref1_escape.l0 (k + m + 4) s pos ((pos + 3 + i : Nat) : Int) v = chancelref1_escape.j3 k' s pos ((pos + 3 + (i + (hexes m (s.data.toList.drop (pos + 3 + i)) v).2) : Nat) : Int) ((hexes m (s.data.toList.drop (pos + 3 + i)) v).1 : Nat)
  | 0, i, v, k, h1, h2, h3 => by
    refine ⟨k + 3, by omega, ?_⟩
    obtain rfl : i = 6 := by omega
    show chancelref1_escape.l0 (k + 3 + 1) s pos _ v = _
    rw [chancelref1_escape.l0, hexes, show wrap64 ((pos : Int) + 9) = ((pos + 9 : Nat) : Int) by unfold wrap64; omega]
    by_cases c : ((pos + 3 + 6 : Nat) : Int) < (s.size : Int)
    · rw [if_pos c, if_neg (by omega)]
      simp only [Nat.add_zero]
    · rw [if_neg c]
      simp only [Nat.add_zero]
  | m + 1, i, v, k, h1, h2, h3 => by
    rw [show k + (m + 1) + 4 = (k + m + 4) + 1 from rfl, chancelref1_escape.l0, show wrap64 ((pos : Int) + 9) = ((pos + 9 : Nat) : Int) by unfold wrap64; omega]
    by_cases c : pos + 3 + i < s.size
    · have hd : s.data.toList.drop (pos + 3 + i) = s.data.toList[pos + 3 + i]'(by rw [Array.length_toList]; exact c) :: s.data.toList.drop (pos + 3 + i + 1) := List.drop_eq_getElem_cons _
      have hb := bt_at_ s (pos + 3 + i) c
      have hv : v < 16777216 := Nat.lt_of_lt_of_le h3 (Nat.pow_le_pow_right (by decide : 0 < 16) (show i ≤ 6 by omega))
      have ha : at_ s.data.toList (pos + 3 + i) = (s.data.toList[pos + 3 + i]'(by rw [Array.length_toList]; exact c)).toNat := by
        unfold at_
        rw [List.getD_eq_getElem?_getD, List.getElem?_eq_getElem (by rw [Array.length_toList]; exact c)]
        rfl
      have hlt := at_lt s.data.toList (pos + 3 + i)
      rw [if_pos (by omega), if_pos (by omega), if_pos (by omega), hb, ref_digit_eq _ hlt (k + m + 2), Option.bind_some, Option.bind_some]
      cases h : hexD (at_ s.data.toList (pos + 3 + i)) with
      | none =>
        have hx : hexes (m + 1) (s.data.toList.drop (pos + 3 + i)) v = (v, 0) := by
          rw [hd, hexes, ← ha, h]
        refine ⟨k + m + 4, by omega, ?_⟩
        rw [show hexI (at_ s.data.toList (pos + 3 + i)) = -1 by unfold hexI; rw [h], if_neg (by omega), hx]
        simp only [Nat.add_zero]
      | some d =>
        have hdl := hexD_lt h
        obtain ⟨k', hk, e⟩ := escape_l0 s hs pos m (i + 1) (16 * v + d) k (by omega) (by omega) (by rw [Nat.pow_succ]; omega)
        refine ⟨k', hk, ?_⟩
        have hx : hexes (m + 1) (s.data.toList.drop (pos + 3 + i)) v = ((hexes m (s.data.toList.drop (pos + 3 + (i + 1))) (16 * v + d)).1, (hexes m (s.data.toList.drop (pos + 3 + (i + 1))) (16 * v + d)).2 + 1) := by
          rw [hd, hexes, ← ha, h]
          rfl
        rw [show hexI (at_ s.data.toList (pos + 3 + i)) = (d : Int) by unfold hexI; rw [h], if_pos (by omega), wrap_digit v d hv hdl, wrap_next (pos + 3 + i) (by omega), show pos + 3 + i + 1 = pos + 3 + (i + 1) from rfl, e, hx]
        rw [show i + 1 + (hexes m (s.data.toList.drop (pos + 3 + (i + 1))) (16 * v + d)).2 = i + ((hexes m (s.data.toList.drop (pos + 3 + (i + 1))) (16 * v + d)).2 + 1) by omega]
    · have hd : s.data.toList.drop (pos + 3 + i) = [] := List.drop_of_length_le (by rw [Array.length_toList]; show s.size ≤ pos + 3 + i; omega)
      refine ⟨k + m + 4, by omega, ?_⟩
      rw [if_neg (by omega), hd, hexes]
      · rfl
theorem escape_end (s : ByteArray) (hs : s.size ≤ 1000000) (pos v n k' : Nat) (h1 : pos + 3 + n ≤ s.size) (h2 : v < 16777216) :
    chancelref1_escape.j3 (k' + 3) s pos ((pos + 3 + n : Nat) : Int) v = some (if n = 0 ∨ (s.data.toList.drop (pos + 3)).length ≤ n ∨ at_ (s.data.toList.drop (pos + 3)) n ≠ 125 then (0, 0, 12) else if isR (v : Int) then ((v : Int), ((n + 1 : Nat) : Int) + 3, 0) else (0, 0, 11)) := by
  have hl : (s.data.toList.drop (pos + 3)).length = s.size - (pos + 3) := by rw [List.length_drop, list_len]
  have bad : chancelref1_escape.j4 (k' + 2) pos ((pos + 3 + n : Nat) : Int) v true = some (0, 0, 12) := by rw [chancelref1_escape.j4, if_pos rfl]
  rw [chancelref1_escape.j3, show wrap64 ((pos : Int) + 3) = ((pos + 3 : Nat) : Int) by unfold wrap64; omega]
  by_cases c0 : n = 0
  · rw [if_pos (by omega), if_pos (.inl c0)]
    exact bad
  rw [if_neg (by omega)]
  by_cases c1 : pos + 3 + n = s.size
  · rw [if_pos (by omega), if_pos (.inr (.inl (by omega)))]
    exact bad
  rw [if_neg (by omega), if_pos (by omega), if_pos (by omega), bt_pos s (pos + 3) n (by omega)]
  by_cases c2 : at_ (s.data.toList.drop (pos + 3)) n = 125
  · rw [if_neg (by omega)]
    have : (((at_ (s.data.toList.drop (pos + 3)) n : Nat) : Int) != 125) = false := by rw [c2]; rfl
    rw [this, chancelref1_escape.j4, if_neg (by decide), show wrap32 (v : Int) = (v : Int) by unfold wrap32; omega, is_eq, Option.bind_some]
    by_cases c3 : isR (v : Int)
    · rw [if_pos (decide_eq_true c3), if_pos c3, show wrap64 (((pos + 3 + n : Nat) : Int) + 1) = ((pos + 3 + n + 1 : Nat) : Int) by unfold wrap64; omega, show wrap64 (((pos + 3 + n + 1 : Nat) : Int) - (pos : Int)) = ((n + 1 : Nat) : Int) + 3 by unfold wrap64; omega]
    · rw [if_neg (by rw [decide_eq_true_eq]; exact c3), if_neg c3]
  · have : (((at_ (s.data.toList.drop (pos + 3)) n : Nat) : Int) != 125) = true := by rw [bne_iff_ne]; omega
    rw [this, if_pos (.inr (.inr c2))]
    exact bad
/-- One place more. -/
def lift1 (e : Int × Int × Int) : Int × Int × Int := if e.2.2 = 0 then (e.1, e.2.1 + 1, 0) else (0, 0, e.2.2)
theorem escape_eq (s : ByteArray) (hs : s.size ≤ 1000000) (pos : Nat) (hp : pos < s.size) (k : Nat) (hk : 30 ≤ k) :
    chancelref1_escape.f k s pos = some (lift1 (escL (s.data.toList.drop (pos + 1)))) := by
  obtain ⟨k, rfl⟩ : ∃ m, k = m + 6 + 4 + 2 := ⟨k - 12, by omega⟩
  have hl : (s.data.toList.drop (pos + 1)).length = s.size - (pos + 1) := by rw [List.length_drop, list_len]
  unfold chancelref1_escape.f
  rw [wrap_next pos (by omega)]
  unfold escL
  by_cases c : pos + 1 = s.size
  · rw [if_pos (by omega), if_pos (show (s.data.toList.drop (pos + 1)).length = 0 by omega)]
    rfl
  rw [if_neg (by omega), if_pos (by omega), if_pos (by omega), if_neg (show ¬ (s.data.toList.drop (pos + 1)).length = 0 by omega)]
  have hb := bt_pos s (pos + 1) 0 (by omega)
  rw [Nat.add_zero] at hb
  have hlt := at_lt (s.data.toList.drop (pos + 1)) 0
  rw [hb]
  obtain ⟨c0, hc0⟩ : ∃ c0, at_ (s.data.toList.drop (pos + 1)) 0 = c0 := ⟨_, rfl⟩
  rw [hc0] at hb hlt ⊢
  by_cases c1 : c0 = 92 ∨ c0 = 34
  · have e : (if (c0 : Int) = 92 then chancelref1_escape.j0 (k + 6 + 4 + 2) s pos c0 ((c0 : Int) == 92) else chancelref1_escape.j0 (k + 6 + 4 + 2) s pos c0 ((c0 : Int) == 34)) = chancelref1_escape.j0 (k + 6 + 4 + 2) s pos c0 true := by
      split
      · next h => rw [beq_iff_eq.2 h]
      · rw [show ((c0 : Int) == 34) = true by rw [beq_iff_eq]; omega]
    rw [e, chancelref1_escape.j0, if_pos rfl, wrap_next pos (by omega), if_pos (by omega), if_pos (by omega), if_pos c1, hb, show wrap32 ((c0 : Nat) : Int) = ((c0 : Nat) : Int) by unfold wrap32; omega]
    rfl
  have e : (if (c0 : Int) = 92 then chancelref1_escape.j0 (k + 6 + 4 + 2) s pos c0 ((c0 : Int) == 92) else chancelref1_escape.j0 (k + 6 + 4 + 2) s pos c0 ((c0 : Int) == 34)) = chancelref1_escape.j0 (k + 6 + 4 + 2) s pos c0 false := by
    rw [if_neg (by omega), show ((c0 : Int) == 34) = false by rw [beq_eq_false_iff_ne]; omega]
  rw [e, chancelref1_escape.j0, if_neg (by decide), if_neg c1]
  by_cases c2 : c0 = 110
  · rw [if_pos (by omega), if_pos c2]
    rfl
  rw [if_neg (by omega), if_neg c2]
  by_cases c3 : c0 = 116
  · rw [if_pos (by omega), if_pos c3]
    rfl
  rw [if_neg (by omega), if_neg c3]
  by_cases c4 : c0 = 117
  · rw [if_pos (by omega), show wrap64 ((pos : Int) + 2) = ((pos + 2 : Nat) : Int) by unfold wrap64; omega]
    by_cases c5 : pos + 2 ≥ s.size
    · rw [if_pos (by omega), chancelref1_escape.j1, if_pos rfl, if_neg (by omega)]
      rfl
    rw [if_neg (by omega), if_pos (by omega), if_pos (by omega)]
    have hb1 := bt_pos s (pos + 1) 1 (by omega)
    rw [show pos + 1 + 1 = pos + 2 from rfl] at hb1
    rw [hb1]
    by_cases c6 : at_ (s.data.toList.drop (pos + 1)) 1 = 123
    · have h6 : (((at_ (s.data.toList.drop (pos + 1)) 1 : Nat) : Int) != 123) = false := by rw [c6]; rfl
      rw [h6, chancelref1_escape.j1, if_neg (by decide), show wrap64 ((pos : Int) + 3) = ((pos + 3 : Nat) : Int) by unfold wrap64; omega, if_pos ⟨c4, by omega, c6⟩, List.drop_drop]
      obtain ⟨k', hk', el⟩ := escape_l0 s hs pos 6 0 0 k (by omega) (by omega) (by decide)
      simp only [Nat.add_zero, Nat.zero_add] at el
      obtain ⟨k', rfl⟩ : ∃ m, k' = m + 3 := ⟨k' - 3, by omega⟩
      have h1 := hexes_len 6 (s.data.toList.drop (pos + 3)) 0
      have h2 := hexes_lt 6 (s.data.toList.drop (pos + 3)) 0 0 (by omega) (by decide)
      have hl3 : (s.data.toList.drop (pos + 3)).length = s.size - (pos + 3) := by rw [List.length_drop, list_len]
      rw [escape_end s hs pos _ _ k' (by omega) h2] at el
      rw [show ((0 : Nat) : Int) = 0 from rfl] at el
      rw [show pos + 1 + 2 = pos + 3 from rfl]
      refine el.trans (congrArg some ?_)
      unfold bracedL
      generalize hexes 6 (s.data.toList.drop (pos + 3)) 0 = p
      obtain ⟨v, n⟩ := p
      by_cases d1 : n = 0 ∨ (s.data.toList.drop (pos + 3)).length ≤ n ∨ at_ (s.data.toList.drop (pos + 3)) n ≠ 125
      · rw [if_pos d1]
        simp only [if_pos d1]
        rfl
      · rw [if_neg d1]
        simp only [if_neg d1]
        by_cases d2 : isR (v : Int)
        · simp only [if_pos d2]
          unfold lift1
          simp only [if_true]
          rw [show ((n + 1 : Nat) : Int) + 3 = ((n + 1 : Nat) : Int) + 2 + 1 by omega]
        · simp only [if_neg d2]
          rfl
    · have h6 : (((at_ (s.data.toList.drop (pos + 1)) 1 : Nat) : Int) != 123) = true := by rw [bne_iff_ne]; omega
      rw [h6, chancelref1_escape.j1, if_pos rfl, if_neg (by omega)]
      rfl
  · rw [if_neg (by omega), if_neg (by omega)]
    rfl
end Go.Proofs.YtapccgkkcgggiaaDoor.Pure
