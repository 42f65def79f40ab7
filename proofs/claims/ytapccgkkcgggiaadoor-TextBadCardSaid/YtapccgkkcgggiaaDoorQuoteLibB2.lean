import Derived.Test.YtapccgkkcgggiaaDoorQuoteLibB
import Derived.Test.YtapccgkkcgggiaaDoorReadLibB4
namespace Go.Proofs.YtapccgkkcgggiaaDoor.Pure
open Go.RowKit Go.Proofs.YtapccgkkcgggiaaDoor.GB Go.Proofs.YtapccgkkcgggiaaDoor.HandB Go.Proofs.YtapccgkkcgggiaaDoorW.PrintWords Go.Proofs.YtapccgkkcgggiaaDoorW.PrintLast
/-! ### what was quoted is read -/
theorem at_cons (c : UInt8) (l : List UInt8) : at_ (c :: l) 0 = c.toNat := rfl
theorem step_ctl (h : UInt8) (rest : List UInt8) (d : Nat) (hd : hexD h.toNat = some d) : stepL ([92, 117, 123] ++ [h] ++ [125] ++ rest) = ((d : Int), 5, 0) := by
  have hdl := hexD_lt hd
  have e1 : hexes 6 (h :: 125 :: rest) 0 = (d, 1) := by
    rw [hexes, hd]
    simp only [Nat.mul_zero, Nat.zero_add]
    rw [hexes, show hexD (125 : UInt8).toNat = none by decide]
  have e2 : bracedL (h :: 125 :: rest) = ((d : Int), 2, 0) := by
    unfold bracedL
    rw [e1]
    simp only
    rw [if_neg (by rw [at_succ, at_zero]; simp), if_pos ⟨by omega, by omega, by omega⟩]
    rfl
  have e3 : escL (117 :: 123 :: h :: 125 :: rest) = ((d : Int), 4, 0) := by
    unfold escL
    rw [if_neg (by simp), if_neg (by rw [at_zero]; decide), if_neg (by rw [at_zero]; decide), if_neg (by rw [at_zero]; decide), if_pos ⟨by rw [at_zero]; rfl, by simp, by rw [at_succ, at_zero]; rfl⟩]
    rw [show (117 :: 123 :: h :: 125 :: rest).drop 2 = h :: 125 :: rest from rfl, e2, if_pos rfl]
    rfl
  unfold stepL
  rw [if_neg (by simp), if_neg (by show ¬ (92 : UInt8).toNat < 32; decide), if_neg (by rw [dec_92 _ (by show (92 : UInt8).toNat < 128; decide)]; simp only; intro e; exact absurd e.1 (by show ¬ (92 : UInt8).toNat = 65533; decide)), if_pos (by rfl)]
  rw [show List.drop 1 ([92, 117, 123] ++ [h] ++ [125] ++ rest) = 117 :: 123 :: h :: 125 :: rest from rfl, e3, if_pos rfl]
  rfl
theorem step_ctl2 (g h : UInt8) (rest : List UInt8) (c d : Nat) (hc : hexD g.toNat = some c) (hd : hexD h.toNat = some d) : stepL ([92, 117, 123] ++ [g, h] ++ [125] ++ rest) = (((16 * c + d : Nat) : Int), 6, 0) := by
  have hcl := hexD_lt hc
  have hdl := hexD_lt hd
  have e1 : hexes 6 (g :: h :: 125 :: rest) 0 = (16 * c + d, 2) := by
    rw [hexes, hc]
    simp only [Nat.mul_zero, Nat.zero_add]
    rw [hexes, hd]
    simp only
    rw [hexes, show hexD (125 : UInt8).toNat = none by decide]
  have e2 : bracedL (g :: h :: 125 :: rest) = (((16 * c + d : Nat) : Int), 3, 0) := by
    unfold bracedL
    rw [e1]
    simp only
    rw [if_neg (by rw [at_succ, at_succ, at_zero]; simp), if_pos ⟨by omega, by omega, by omega⟩]
    rfl
  have e3 : escL (117 :: 123 :: g :: h :: 125 :: rest) = (((16 * c + d : Nat) : Int), 5, 0) := by
    unfold escL
    rw [if_neg (by simp), if_neg (by rw [at_zero]; decide), if_neg (by rw [at_zero]; decide), if_neg (by rw [at_zero]; decide), if_pos ⟨by rw [at_zero]; rfl, by simp, by rw [at_succ, at_zero]; rfl⟩]
    rw [show (117 :: 123 :: g :: h :: 125 :: rest).drop 2 = g :: h :: 125 :: rest from rfl, e2, if_pos rfl]
    rfl
  unfold stepL
  rw [if_neg (by simp), if_neg (by show ¬ (92 : UInt8).toNat < 32; decide), if_neg (by rw [dec_92 _ (by show (92 : UInt8).toNat < 128; decide)]; simp only; intro e; exact absurd e.1 (by show ¬ (92 : UInt8).toNat = 65533; decide)), if_pos (by rfl)]
  rw [show List.drop 1 ([92, 117, 123] ++ [g, h] ++ [125] ++ rest) = 117 :: 123 :: g :: h :: 125 :: rest from rfl, e3, if_pos rfl]
  rfl
theorem step_two (c : UInt8) (r : Int) (rest : List UInt8) (h : escL (c :: rest) = (r, 1, 0)) : stepL (92 :: c :: rest) = (r, 2, 0) := by
  unfold stepL
  rw [if_neg (by simp), if_neg (by show ¬ (92 : UInt8).toNat < 32; decide), if_neg (by rw [dec_92 _ (by show (92 : UInt8).toNat < 128; decide)]; simp only; intro e; exact absurd e.1 (by show ¬ (92 : UInt8).toNat = 65533; decide)), if_pos (by rfl)]
  rw [show (92 :: c :: rest).drop 1 = c :: rest from rfl, h, if_pos rfl]
  rfl
theorem hexD_hx : ∀ n : Fin 16, hexD (hx n.val).toNat = some n.val := by decide +kernel
theorem step_shown (r : Int) (hr : isR r) (rest : List UInt8) : stepL (shownL r ++ rest) = (r, ((shownL r).length : Int), 0) ∧ at_ (shownL r ++ rest) 0 ≠ 34 := by
  obtain ⟨h0, h1, h2⟩ := hr
  unfold shownL
  by_cases c1 : r = 92
  · subst c1
    rw [if_pos rfl]
    exact ⟨step_two 92 92 rest (by unfold escL; rw [if_neg (by simp), if_pos (.inl rfl)]; rfl), by show ¬ (92 : UInt8).toNat = 34; decide⟩
  rw [if_neg c1]
  by_cases c2 : r = 34
  · subst c2
    rw [if_pos rfl]
    exact ⟨step_two 34 34 rest (by unfold escL; rw [if_neg (by simp), if_pos (.inr rfl)]; rfl), by show ¬ (92 : UInt8).toNat = 34; decide⟩
  rw [if_neg c2]
  by_cases c3 : r = 10
  · subst c3
    rw [if_pos rfl]
    exact ⟨step_two 110 10 rest (by unfold escL; rw [if_neg (by simp), if_neg (by rw [at_zero]; decide), if_pos (show at_ ((110 : UInt8) :: rest) 0 = 110 from rfl)]), by show ¬ (92 : UInt8).toNat = 34; decide⟩
  rw [if_neg c3]
  by_cases c4 : r = 9
  · subst c4
    rw [if_pos rfl]
    exact ⟨step_two 116 9 rest (by unfold escL; rw [if_neg (by simp), if_neg (by rw [at_zero]; decide), if_neg (by rw [at_zero]; decide), if_pos (show at_ ((116 : UInt8) :: rest) 0 = 116 from rfl)]), by show ¬ (92 : UInt8).toNat = 34; decide⟩
  rw [if_neg c4]
  by_cases c5 : r < 32 ∨ r = 127
  · rw [if_pos c5]
    obtain ⟨n, rfl⟩ : ∃ n : Nat, r = n := ⟨r.toNat, by omega⟩
    rw [show ((n : Int)).toNat = n by omega]
    unfold hexL
    by_cases c6 : n < 16
    · rw [if_pos c6, step_ctl _ rest n (hexD_hx ⟨n, c6⟩)]
      exact ⟨rfl, by show ¬ (92 : UInt8).toNat = 34; decide⟩
    · rw [if_neg c6, step_ctl2 _ _ rest (n / 16) (n % 16) (hexD_hx ⟨n / 16, by omega⟩) (hexD_hx ⟨n % 16, by omega⟩), show 16 * (n / 16) + n % 16 = n by omega]
      exact ⟨rfl, by show ¬ (92 : UInt8).toNat = 34; decide⟩
  · rw [if_neg c5, encode_eq r ⟨h0, h1, h2⟩]
    have hd := dec_enc r ⟨h0, h1, h2⟩ rest
    have hb := encB_pos r
    have hat : (r < 128 → at_ (encB r ++ rest) 0 = r.toNat) ∧ (¬ r < 128 → 128 ≤ at_ (encB r ++ rest) 0) := by
      constructor
      · intro c
        rw [encB_one c]
        show (UInt8.ofNat r.toNat).toNat = r.toNat
        rw [tn _ (by omega)]
      · intro c
        by_cases d2 : r < 2048
        · rw [encB_two c d2]
          show 128 ≤ (UInt8.ofNat _).toNat
          rw [tn _ (by omega)]; omega
        by_cases d3 : r < 65536
        · rw [encB_three c d2 d3]
          show 128 ≤ (UInt8.ofNat _).toNat
          rw [tn _ (by omega)]; omega
        · rw [encB_four c d2 d3]
          show 128 ≤ (UInt8.ofNat _).toNat
          rw [tn _ (by omega)]; omega
    have hn : ¬ ((65533 : Nat) = r.toNat ∧ (encB r).length = 1) := fun e => enc_not_bad r (by rw [← e.1, e.2])
    have h34 : at_ (encB r ++ rest) 0 ≠ 34 ∧ at_ (encB r ++ rest) 0 ≠ 92 ∧ ¬ at_ (encB r ++ rest) 0 < 32 := by
      by_cases c : r < 128
      · have := hat.1 c; omega
      · have := hat.2 c; omega
    refine ⟨?_, h34.1⟩
    unfold stepL
    rw [if_neg (by rw [List.length_append]; omega), if_neg h34.2.2, hd, if_neg (by simp only; omega), if_neg h34.2.1]
    simp only
    rw [show ((r.toNat : Nat) : Int) = r by omega]
theorem shown_pos (r : Int) (hr : isR r) : 1 ≤ (shownL r).length := by
  have h := step_ok (shownL r ++ []) (by rw [(step_shown r hr []).1])
  rw [(step_shown r hr []).1] at h
  have := h.2.1
  simp only at this
  omega
theorem read_shown : ∀ (rs : List Int) (rest : List UInt8) (f pos : Nat) (acc : List Int), (∀ r ∈ rs, isR r) → rs.length < f →
    readL f acc (showsL rs ++ 34 :: rest) pos = (strOfNums (acc ++ encN rs), ((pos + (showsL rs).length + 1 : Nat) : Int), 0)
  | [], rest, f, pos, acc, _, hf => by
    obtain ⟨f, rfl⟩ : ∃ m, f = m + 1 := ⟨f - 1, by omega⟩
    rw [readL, if_neg (by simp), if_pos (by rfl)]
    simp [encN, showsL]
  | r :: rs, rest, f, pos, acc, hr, hf => by
    obtain ⟨f, rfl⟩ : ∃ m, f = m + 1 := ⟨f - 1, by omega⟩
    obtain ⟨e1, e2⟩ := step_shown r (hr r (by simp)) (showsL rs ++ 34 :: rest)
    have hp := shown_pos r (hr r (by simp))
    rw [showsL, List.append_assoc, readL, if_neg (by rw [List.length_append]; omega), if_neg e2, e1, if_pos rfl]
    simp only
    rw [show (((shownL r).length : Nat) : Int).toNat = (shownL r).length by omega, List.drop_left,
      read_shown rs rest f (pos + (shownL r).length) (acc ++ encZ r) (fun x hx => hr x (by simp [hx])) (by simp only [List.length_cons] at hf; omega), encN, List.append_assoc, List.length_append]
    rw [show pos + (shownL r).length + (showsL rs).length + 1 = pos + ((shownL r).length + (showsL rs).length) + 1 by omega]
theorem read_quoted (rs : List Int) (hr : ∀ r ∈ rs, isR r) (rest : List UInt8) : readT (34 :: (showsL rs ++ [34]) ++ rest) = (txt rs, (((showsL rs).length + 2 : Nat) : Int), 0) := by
  unfold readT
  have hl : rs.length ≤ (showsL rs).length := by
    clear rest
    induction rs with
    | nil => exact Nat.zero_le _
    | cons r rs ih =>
      have h1 := shown_pos r (hr r (by simp))
      have h2 := ih (fun x hx => hr x (by simp [hx]))
      rw [showsL, List.length_append, List.length_cons]
      omega
  rw [if_neg (by simp [at_]), show List.drop 1 (34 :: (showsL rs ++ [34]) ++ rest) = showsL rs ++ 34 :: rest by simp, read_shown rs rest _ 1 [] hr (by simp; omega), List.nil_append, str_enc]
  rw [show 1 + (showsL rs).length + 1 = (showsL rs).length + 2 by omega]
/-! ### the reference's quoting -/
/-- A byte as it is quoted. -/
def showB (c : UInt8) : List UInt8 := if c = 92 ∨ c = 34 then [92, c] else if c = 10 then [92, 110] else if c = 9 then [92, 116] else if c.toNat < 32 ∨ c = 127 then [92, 117, 123] ++ hexL c.toNat ++ [125] else [c]
def showBs : List UInt8 → List UInt8
  | [] => []
  | c :: l => showB c ++ showBs l
theorem showBs_app : ∀ a b, showBs (a ++ b) = showBs a ++ showBs b
  | [], _ => rfl
  | c :: l, b => by simp only [List.cons_append, showBs, showBs_app l b, List.append_assoc]
theorem showB_len (c : UInt8) : (showB c).length ≤ 6 := by
  unfold showB hexL
  split
  · simp
  split
  · simp
  split
  · simp
  split
  · split <;> simp
  · simp
theorem showBs_high : ∀ l : List UInt8, (∀ c ∈ l, 128 ≤ c.toNat) → showBs l = l
  | [], _ => rfl
  | c :: l, h => by
    have hc := h c (by simp)
    have e : showB c = [c] := by
      unfold showB
      have n1 : ¬ (c = 92 ∨ c = 34) := by rintro (rfl | rfl) <;> exact absurd hc (by decide)
      have n2 : ¬ c = 10 := by rintro rfl; exact absurd hc (by decide)
      have n3 : ¬ c = 9 := by rintro rfl; exact absurd hc (by decide)
      have n4 : ¬ (c.toNat < 32 ∨ c = 127) := by
        rintro (h4 | rfl)
        · omega
        · exact absurd hc (by decide)
      rw [if_neg n1, if_neg n2, if_neg n3, if_neg n4]
    rw [showBs, e, showBs_high l (fun x hx => h x (by simp [hx]))]
    rfl
theorem byte_one (r : Int) (h0 : 0 ≤ r) (h : r < 128) : showB (UInt8.ofNat r.toNat) = shownL r := by
  have key : ∀ n : Fin 128, showB (UInt8.ofNat n.val) = shownL (n.val : Int) := by decide +kernel
  have := key ⟨r.toNat, by omega⟩
  simp only at this
  rw [this, show ((r.toNat : Nat) : Int) = r by omega]
theorem showBs_enc (r : Int) (hr : isR r) : showBs (encB r) = shownL r := by
  by_cases c : r < 128
  · rw [encB_one c, ← byte_one r hr.1 c]
    simp [showBs]
  · obtain ⟨h0, h1, h2⟩ := hr
    have e : shownL r = encB r := by
      unfold shownL
      rw [if_neg (by omega), if_neg (by omega), if_neg (by omega), if_neg (by omega), if_neg (by omega), encode_eq r ⟨h0, h1, h2⟩]
    rw [e]
    refine showBs_high _ fun x hx => ?_
    by_cases d2 : r < 2048
    · rw [encB_two c d2] at hx
      simp only [List.mem_cons, List.mem_nil_iff, or_false] at hx
      rcases hx with rfl | rfl <;> (rw [tn _ (by omega)]; omega)
    by_cases d3 : r < 65536
    · rw [encB_three c d2 d3] at hx
      simp only [List.mem_cons, List.mem_nil_iff, or_false] at hx
      rcases hx with rfl | rfl | rfl <;> (rw [tn _ (by omega)]; omega)
    · rw [encB_four c d2 d3] at hx
      simp only [List.mem_cons, List.mem_nil_iff, or_false] at hx
      rcases hx with rfl | rfl | rfl | rfl <;> (rw [tn _ (by omega)]; omega)
theorem showBs_encA : ∀ rs : List Int, (∀ r ∈ rs, isR r) → showBs (encA rs) = showsL rs
  | [], _ => rfl
  | r :: rs, h => by rw [encA, showBs_app, showBs_enc r (h r (by simp)), showBs_encA rs (fun x hx => h x (by simp [hx])), showsL]
end Go.Proofs.YtapccgkkcgggiaaDoor.Pure
