import Derived.Test.YtapccgkkcgggiaaDoorTextLibB
import Derived.Test.YtapccgkkcgggiaaDoorGB8
import Derived.Test.YtapccgkkcgggiaaDoorGB10
import Derived.Lib.Bytes
import Derived.Lib.SlBytesRow
namespace Go.Proofs.YtapccgkkcgggiaaDoor.Pure
open Go.RowKit Go.Proofs.YtapccgkkcgggiaaDoor.GB Go.Proofs.YtapccgkkcgggiaaDoor.HandB Go.Proofs.YtapccgkkcgggiaaDoorW.PrintWords Go.Proofs.YtapccgkkcgggiaaDoorW.PrintLast
/-! ### the reference's runes of a text, and its text of runes -/
theorem or224 : ∀ x : Fin 16, Go.bits .or .u8 224 ((x.val : Nat) : Int) = ((224 + x.val : Nat) : Int) := by decide +kernel
theorem or240 : ∀ x : Fin 8, Go.bits .or .u8 240 ((x.val : Nat) : Int) = ((240 + x.val : Nat) : Int) := by decide +kernel
theorem or192 : ∀ x : Fin 32, Go.bits .or .u8 192 ((x.val : Nat) : Int) = ((192 + x.val : Nat) : Int) := by decide +kernel
theorem or128 : ∀ x : Fin 64, Go.bits .or .u8 128 ((x.val : Nat) : Int) = ((128 + x.val : Nat) : Int) := by decide +kernel
theorem put_eq (l : List Int) (r : Int) (h : isR r) (hl : l.length < 140000000000000) : chancelref1_put.f l r = some (l ++ encZ r) := by
  obtain ⟨h0, h1, h2⟩ := h
  obtain ⟨n, rfl⟩ : ∃ n : Nat, r = n := ⟨r.toNat, by omega⟩
  have a63 : ∀ m : Nat, m < 2147483648 → Go.bits .or .u8 128 (Go.bits .and .i32 (m : Int) 63 % 256) = ((128 + m % 64 : Nat) : Int) := by
    intro m hm
    rw [and63_i32 m hm, show (((m % 64 : Nat) : Int)) % 256 = ((m % 64 : Nat) : Int) by omega]
    exact or128 ⟨m % 64, Nat.mod_lt _ (by decide)⟩
  unfold chancelref1_put.f encZ
  by_cases c1 : (n : Int) < 128
  · rw [if_pos c1, if_pos c1, if_pos (by omega), show (n : Int) % 256 = n by omega]
  rw [if_neg c1, if_neg c1]
  by_cases c2 : (n : Int) < 2048
  · rw [if_pos c2, if_pos c2, a63 n (by omega), show (n : Int) / 64 % 256 = ((n / 64 : Nat) : Int) by omega, or192 ⟨n / 64, by omega⟩]
    simp only [Option.bind_some, List.length_cons, List.length_nil]
    rw [if_pos (by omega)]
    congr 2
  rw [if_neg c2, if_neg c2]
  by_cases c3 : (n : Int) < 65536
  · rw [if_pos c3, if_pos c3, a63 n (by omega), show (n : Int) / 4096 % 256 = ((n / 4096 : Nat) : Int) by omega, or224 ⟨n / 4096, by omega⟩, show (n : Int) / 64 = ((n / 64 : Nat) : Int) from rfl, a63 (n / 64) (by omega)]
    simp only [Option.bind_some, List.length_cons, List.length_nil]
    rw [if_pos (by omega)]
    congr 2
  · rw [if_neg c3, if_neg c3, a63 n (by omega), show (n : Int) / 262144 % 256 = ((n / 262144 : Nat) : Int) by omega, or240 ⟨n / 262144, by omega⟩, show (n : Int) / 64 = ((n / 64 : Nat) : Int) from rfl, a63 (n / 64) (by omega),
      show (n : Int) / 4096 = ((n / 4096 : Nat) : Int) from rfl, a63 (n / 4096) (by omega)]
    simp only [Option.bind_some, List.length_cons, List.length_nil]
    rw [if_pos (by omega)]
    congr 2
/-- Runes' bytes, as numbers. -/
def encN : List Int → List Int
  | [] => []
  | r :: l => encZ r ++ encN l
theorem encN_bytes : ∀ rs, (encN rs).map (fun x => UInt8.ofNat x.toNat) = encA rs
  | [] => rfl
  | r :: l => by simp only [encN, encA, List.map_append, encN_bytes l]; rfl
theorem str_enc (rs : List Int) : strOfNums (encN rs) = txt rs := by
  apply ByteArray.ext
  apply Array.toList_inj.1
  rw [strOfNums_data]
  show (encN rs).map _ = (encA rs).toArray.toList
  rw [← encN_bytes]
theorem encZ_len (r : Int) : (encZ r).length ≤ 4 := by
  unfold encZ
  split
  · simp
  split
  · simp
  split <;> simp
theorem rd_at (l : List Int) (i : Nat) (h : i < l.length) : rd l (i : Int) = l[i]'h := by
  unfold rd
  rw [show ((i : Int)).toNat = i by omega, List.getD_eq_getElem?_getD, List.getElem?_eq_getElem h]
  rfl
theorem of_l0 (rs : List Int) (hr : ∀ r ∈ rs, isR r) (hl : rs.length < 1000000) (d : Nat) : ∀ (i k : Nat) (acc : List Int), rs.length - i = d → i ≤ rs.length → d < k → acc.length ≤ 4 * i →
    chancelref1_Of.l0 k rs acc i = some (strOfNums (acc ++ encN (rs.drop i)), 0) := by
  induction d with
  | zero =>
    intro i k acc h1 h2 h3 h4
    obtain ⟨k, rfl⟩ : ∃ m, k = m + 1 := ⟨k - 1, by omega⟩
    simp only [chancelref1_Of.l0]
    rw [if_neg (by omega), List.drop_of_length_le (by omega)]
    simp [encN]
  | succ d ih =>
    intro i k acc h1 h2 h3 h4
    obtain ⟨k, rfl⟩ : ∃ m, k = m + 1 := ⟨k - 1, by omega⟩
    have hi : i < rs.length := by omega
    have hR := hr (rs[i]'hi) (List.getElem_mem hi)
    have hz := encZ_len (rs[i]'hi)
    simp only [chancelref1_Of.l0]
    rw [if_pos (by omega), if_pos (by omega), rd_at rs i hi, is_eq]
    simp only [Option.bind_some]
    rw [if_pos (decide_eq_true hR), put_eq acc _ hR (by omega)]
    simp only [Option.bind_some]
    rw [show wrap64 ((i : Int) + 1) = ((i + 1 : Nat) : Int) by unfold wrap64; omega, ih (i + 1) k (acc ++ encZ (rs[i]'hi)) (by omega) (by omega) (by omega) (by rw [List.length_append]; omega),
      List.drop_eq_getElem_cons hi, encN, List.append_assoc]
theorem of_eq (rs : List Int) (hr : ∀ r ∈ rs, isR r) (hl : rs.length < 1000000) (k : Nat) (hk : rs.length < k) : chancelref1_Of.f k rs = some (txt rs, 0) := by
  unfold chancelref1_Of.f
  have := of_l0 rs hr hl rs.length 0 k [] (by omega) (by omega) hk (by simp)
  rw [show ((0 : Nat) : Int) = 0 from rfl] at this
  rw [this, List.nil_append, List.drop_zero, str_enc]
/-- The reference's runes of what was written. -/
theorem ref_runes (s : ByteArray) (hs : s.size ≤ 140737488351232) : ∀ (rs : List Int) (i k : Nat) (acc : List Int), (∀ r ∈ rs, isR r) → s.data.toList.drop i = encA rs → i ≤ s.size → rs.length + 10 < k → acc.length + rs.length < 35184372088832 →
    chancelref1_Runes.l0 k s acc i = some (acc ++ rs)
  | [], i, k, acc, _, hd, hi, hk, _ => by
    obtain ⟨k, rfl⟩ : ∃ m, k = m + 1 := ⟨k - 1, by omega⟩
    have := congrArg List.length hd
    rw [List.length_drop, Array.length_toList] at this
    simp only [encA, List.length_nil] at this
    have hsz : s.data.size = s.size := rfl
    simp only [chancelref1_Runes.l0]
    rw [if_neg (by omega), List.append_nil]
  | r :: rs, i, k, acc, hr, hd, hi, hk, hl => by
    obtain ⟨k, rfl⟩ : ∃ m, k = m + 1 := ⟨k - 1, by omega⟩
    have hp := encB_pos r
    have hlen := congrArg List.length hd
    rw [List.length_drop, Array.length_toList] at hlen
    simp only [encA, List.length_append] at hlen
    have hsz : s.data.size = s.size := rfl
    simp only [List.length_cons] at hk hl
    have hR := hr r (by simp)
    have hdec := dec_enc r hR (encA rs)
    have h1 : oneL (s.data.toList.drop i) = (r, ((encB r).length : Int)) := by
      rw [hd, encA, oneL_ok hdec]
      · rw [show ((r.toNat : Nat) : Int) = r by have := hR.1; omega]
      · by_cases c : r < 128
        · right; omega
        · left
          by_cases c2 : r < 2048
          · rw [encB_two c c2]; simp
          · by_cases c3 : r < 65536
            · rw [encB_three c c2 c3]; simp
            · rw [encB_four c c2 c3]; simp
    simp only [chancelref1_Runes.l0]
    rw [if_pos (by omega), one_eq s i k (by omega) hs (by omega), h1]
    simp only [Option.bind_some]
    rw [if_neg (by omega), if_pos (by omega), show wrap64 ((i : Int) + ((encB r).length : Int)) = ((i + (encB r).length : Nat) : Int) by unfold wrap64; omega,
      ref_runes s hs rs (i + (encB r).length) k (acc ++ [r]) (fun x hx => hr x (by simp [hx])) (by rw [← List.drop_drop, hd, encA, List.drop_left]) (by omega) (by omega) (by simp; omega), List.append_assoc]
    rfl
theorem ref_runes_txt (rs : List Int) (hr : ∀ r ∈ rs, isR r) (hl : rs.length < 1000000) (k : Nat) (hk : rs.length + 10 < k) : chancelref1_Runes.f k (txt rs) = some rs := by
  unfold chancelref1_Runes.f
  have hb := encA_len rs
  have := ref_runes (txt rs) (by rw [txt_size]; omega) rs 0 k [] hr (by rw [List.drop_zero]; rfl) (by omega) hk (by simp; omega)
  rw [show ((0 : Nat) : Int) = 0 from rfl] at this
  rw [this, List.nil_append]
/-! ### the statements' own texts -/
theorem within_eq (a n : Int) (hn : 0 < n) (hn2 : n ≤ 1000000000) : ∃ r, chancellaw1_within.f a n = some r ∧ 0 ≤ r ∧ r < n := by
  unfold chancellaw1_within.f
  rw [if_neg (by omega)]
  have e : (Int.tmod a n).natAbs = a.natAbs % n.natAbs := Int.natAbs_tmod a n
  have := Nat.mod_lt a.natAbs (show 0 < n.natAbs by omega)
  split
  · refine ⟨_, rfl, ?_⟩
    rw [show wrap64 (Int.tmod a n + n) = Int.tmod a n + n by unfold wrap64; omega]
    omega
  · exact ⟨_, rfl, by omega, by omega⟩
/-- The runes of which the statements' texts are made. -/
def some22 : List Int := [97, 98, 42, 34, 92, 10, 9, 1, 31, 127, 128, 233, 2047, 2048, 8364, 55295, 57344, 65533, 65535, 65536, 128512, 1114111]
theorem some22_good : ∀ r ∈ some22, isR r ∧ r ≠ 888 := by decide
theorem law_of_l0 (l : List Int) (d : Nat) : ∀ (i : Nat) (acc : List Int), 40 - i = d → i ≤ 40 → acc.length ≤ i → (∀ r ∈ acc, r ∈ some22) →
    ∃ rs, rs.length ≤ 40 ∧ (∀ r ∈ rs, r ∈ some22) ∧ ∀ k, 100 + d < k → chancellaw1_Of.l0 k l some22 acc i = some (txt rs) := by
  have fin : ∀ (acc : List Int) (k : Nat), acc.length ≤ 40 → (∀ r ∈ acc, r ∈ some22) → 100 ≤ k → ((chancelref1_Of.f k acc).bind fun bt150 => (some bt150.1)) = some (txt acc) := by
    intro acc k h1 h2 h3
    rw [of_eq acc (fun r hr => (some22_good r (h2 r hr)).1) (by omega) k (by omega)]
    rfl
  induction d with
  | zero =>
    intro i acc h1 h2 h3 h4
    refine ⟨acc, by omega, h4, fun k hk => ?_⟩
    obtain ⟨k, rfl⟩ : ∃ m, k = m + 1 := ⟨k - 1, by omega⟩
    simp only [chancellaw1_Of.l0]
    by_cases hl : (i : Int) < (l.length : Int)
    · rw [if_pos hl, if_neg (by omega)]
      exact fin acc k (by omega) h4 (by omega)
    · rw [if_neg hl]
      exact fin acc k (by omega) h4 (by omega)
  | succ d ih =>
    intro i acc h1 h2 h3 h4
    by_cases hl : (i : Int) < (l.length : Int)
    · obtain ⟨t, ht, t0, t1⟩ := within_eq (rd l i) 22 (by omega) (by omega)
      have hmem : rd some22 t ∈ some22 := by
        obtain ⟨n, rfl⟩ : ∃ n : Nat, t = n := ⟨t.toNat, by omega⟩
        rw [rd_at some22 n (by show n < 22; omega)]
        exact List.getElem_mem _
      obtain ⟨rs, r1, r2, r3⟩ := ih (i + 1) (acc ++ [rd some22 t]) (by omega) (by omega) (by simp; omega) (by
        intro r hr
        rcases List.mem_append.1 hr with h | h
        · exact h4 r h
        · rw [List.mem_singleton.1 h]; exact hmem)
      refine ⟨rs, r1, r2, fun k hk => ?_⟩
      obtain ⟨k, rfl⟩ : ∃ m, k = m + 1 := ⟨k - 1, by omega⟩
      simp only [chancellaw1_Of.l0]
      rw [if_pos hl, if_pos (by omega), if_pos (by omega), show ((some22.length : Nat) : Int) = 22 from rfl, ht]
      simp only [Option.bind_some]
      rw [if_pos t0, if_pos t1, if_pos (by omega), show wrap64 ((i : Int) + 1) = ((i + 1 : Nat) : Int) by unfold wrap64; omega]
      exact r3 k (by omega)
    · refine ⟨acc, by omega, h4, fun k hk => ?_⟩
      obtain ⟨k, rfl⟩ : ∃ m, k = m + 1 := ⟨k - 1, by omega⟩
      simp only [chancellaw1_Of.l0]
      rw [if_neg hl]
      exact fin acc k (by omega) h4 (by omega)
/-- A statement's text: at most 40 runes, of those. -/
theorem law_of (l : List Int) : ∃ rs, rs.length ≤ 40 ∧ (∀ r ∈ rs, r ∈ some22) ∧ ∀ k, 140 < k → chancellaw1_Of.f k l = some (txt rs) := by
  obtain ⟨rs, h1, h2, h3⟩ := law_of_l0 l 40 0 [] (by omega) (by omega) (by simp) (by simp)
  exact ⟨rs, h1, h2, fun k hk => h3 k (by omega)⟩
end Go.Proofs.YtapccgkkcgggiaaDoor.Pure
