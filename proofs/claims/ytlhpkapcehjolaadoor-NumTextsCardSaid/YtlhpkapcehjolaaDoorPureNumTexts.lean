import Derived.Test.YtlhpkapcehjolaaDoorPureLibT
import Derived.Lib.ItoaNum
import Derived.Lib.SmallJoins
namespace Go.Proofs.YtlhpkapcehjolaaDoor.Pure
open Go.RowKit Go.Proofs.YtlhpkapcehjolaaDoor.GNumT Go.Proofs.YtlhpkapcehjolaaDoor.Hand Go.Proofs.YtlhpkapcehjolaaDoorW.PrintWords Go.Proofs.YtlhpkapcehjolaaDoorW.PrintLast
/-- A digit's number. -/
abbrev dv (c : UInt8) : Int := (c.toNat : Int) - 48
/-- What digits come to, from n on. -/
def val : List UInt8 → Int → Int
  | [], n => n
  | c :: l, n => val l (10 * n + dv c)
theorem dv_of {c : UInt8} (h : isDig c = true) : 0 ≤ dv c ∧ dv c ≤ 9 := by
  simp [isDig] at h
  unfold dv
  omega
theorem val_ge : ∀ (l : List UInt8) (n : Int), l.all isDig = true → 0 ≤ n → n ≤ val l n
  | [], n, _, _ => Int.le_refl n
  | c :: l, n, h, hn => by
    simp only [List.all_cons, Bool.and_eq_true] at h
    have := dv_of h.1
    have := val_ge l (10 * n + dv c) h.2 (by omega)
    simp only [val]
    omega
theorem val_big : ∀ (l : List UInt8) (n : Int), l.all isDig = true → 0 ≤ n → n * (10 ^ l.length : Nat) ≤ val l n
  | [], n, _, _ => by simp [val]
  | c :: l, n, h, hn => by
    simp only [List.all_cons, Bool.and_eq_true] at h
    have := dv_of h.1
    have ih := val_big l (10 * n + dv c) h.2 (by omega)
    simp only [val, List.length_cons]
    refine Int.le_trans ?_ ih
    rw [Nat.pow_succ, Nat.mul_comm, Int.natCast_mul, ← Int.mul_assoc]
    exact Int.mul_le_mul_of_nonneg_right (by omega) (Int.natCast_nonneg _)
theorem val_append : ∀ (l m : List UInt8) (n : Int), val (l ++ m) n = val m (val l n)
  | [], _, _ => rfl
  | _ :: l, m, _ => val_append l m _
/-- The program's loop. -/
theorem go_two : ∀ (l : List UInt8) (n : Int), l.all isDig = true → 0 ≤ n → n ≤ 9223372036854775807 → (val l n ≤ 9223372036854775807 → num_Parse.go l n = some (val l n, 0)) ∧ (9223372036854775807 < val l n → num_Parse.go l n = some (0, 17))
  | [], n, _, _, h => ⟨fun _ => rfl, fun h' => absurd h' (by show ¬ 9223372036854775807 < n; omega)⟩
  | c :: l, n, h, h0, h1 => by
    simp only [List.all_cons, Bool.and_eq_true] at h
    have hd := dv_of h.1
    have hv := val_ge l (10 * n + dv c) h.2 (by omega)
    have hi : InR n := by unfold InR; omega
    show (val l (10 * n + dv c) ≤ 9223372036854775807 → num_Parse.go (c :: l) n = some (val l (10 * n + dv c), 0)) ∧ (9223372036854775807 < val l (10 * n + dv c) → num_Parse.go (c :: l) n = some (0, 17))
    have hm1 := mul_eq hi (show InR 10 by unfold InR; omega) 0
    by_cases hm : InR (n * 10)
    · rw [if_pos hm] at hm1
      have ha1 := add_eq hm (show InR (dv c) by unfold InR; omega)
      by_cases ha : InR (n * 10 + dv c)
      · rw [if_pos ha, show n * 10 + dv c = 10 * n + dv c by omega] at ha1
        have e : num_Parse.go (c :: l) n = num_Parse.go l (10 * n + dv c) := by
          simp only [num_Parse.go, hm1, Option.bind_some, if_true]
          show ((num_Add.f (n * 10) (dv c)).bind fun u => _) = _
          simp only [ha1, Option.bind_some, if_true]
        rw [e]
        exact go_two l _ h.2 (by omega) (by unfold InR at ha; omega)
      · rw [if_neg ha] at ha1
        have e : num_Parse.go (c :: l) n = some (0, 17) := by
          simp only [num_Parse.go, hm1, Option.bind_some, if_true]
          show ((num_Add.f (n * 10) (dv c)).bind fun u => _) = _
          simp only [ha1, Option.bind_some]
          rfl
        exact ⟨fun h' => absurd h' (by unfold InR at ha hi; omega), fun _ => e⟩
    · rw [if_neg hm] at hm1
      have e : num_Parse.go (c :: l) n = some (0, 17) := by
        simp only [num_Parse.go, hm1, Option.bind_some]
        rfl
      exact ⟨fun h' => absurd h' (by unfold InR at hm hi; omega), fun _ => e⟩
theorem go_eq (l : List UInt8) (n : Int) (h : l.all isDig = true) (h0 : 0 ≤ n) (h1 : n ≤ 9223372036854775807) : num_Parse.go l n = if val l n ≤ 9223372036854775807 then some (val l n, 0) else some (0, 17) := by
  by_cases e : val l n ≤ 9223372036854775807
  · rw [if_pos e, (go_two l n h h0 h1).1 e]
  · rw [if_neg e, (go_two l n h h0 h1).2 (by omega)]
theorem bt_head (c : UInt8) (l : List UInt8) : bt ⟨(c :: l).toArray⟩ 0 = (c.toNat : Int) := by
  unfold bt
  rw [dif_pos (show (0 : Int).toNat < (⟨(c :: l).toArray⟩ : ByteArray).size from Nat.succ_pos _)]
  rfl
theorem bt_get {s : ByteArray} (i : Nat) (hi : i < s.size) : bt s (i : Int) = ((s[i]'hi).toNat : Int) := by simp [bt, hi]
/-- The reference's second loop. -/
theorem ref_l1 (s : ByteArray) (hs : s.size ≤ 200) (hd : s.data.toList.all isDig = true) (d : Nat) : ∀ (i k : Nat) (n : Int), s.size - i = d → i ≤ s.size → i ≤ 19 → d < k → 0 ≤ n → n < (10 ^ i : Nat) → n ≤ 9223372036854775807 →
    chancelref2_Parse.l1 k s n i = if val (s.data.toList.drop i) n ≤ 9223372036854775807 ∧ s.size ≤ 19 then some (val (s.data.toList.drop i) n, 0) else some (0, 17) := by
  induction d with
  | zero =>
    intro i k n h1 h2 h3 h4 h5 h6 h7
    obtain ⟨k, rfl⟩ : ∃ m, k = m + 1 := ⟨k - 1, by omega⟩
    obtain rfl : i = s.size := by omega
    simp only [chancelref2_Parse.l1]
    rw [if_neg (by omega), List.drop_of_length_le (by simp), val, if_pos ⟨h7, h3⟩, wrap_in (by unfold InR; omega)]
  | succ d ih =>
    intro i k n h1 h2 h3 h4 h5 h6 h7
    obtain ⟨k, rfl⟩ : ∃ m, k = m + 1 := ⟨k - 1, by omega⟩
    have hi : i < s.size := by omega
    have hdig := num_Parse.dig_at hd i hi
    have hdrop : (s.data.toList.drop (i + 1)).all isDig = true := by
      rw [List.all_eq_true] at hd ⊢
      exact fun x hx => hd x (List.mem_of_mem_drop hx)
    simp only [chancelref2_Parse.l1]
    rw [if_pos (by omega), if_pos (by omega), num_Parse.drop_at i hi, val, bt_get i hi]
    by_cases h18 : (i : Int) > 18
    · rw [if_pos h18, if_neg (by omega)]
    · rw [if_neg h18]
      have hpow : 10 ^ i ≤ 10 ^ 18 := Nat.pow_le_pow_right (by decide) (by omega)
      have hp1 : (10 ^ (i + 1) : Nat) = 10 * 10 ^ i := by rw [Nat.pow_succ, Nat.mul_comm]
      have hw : IntKind.u64.wrap (IntKind.u64.wrap (10 * n) + (((s[i]'hi).toNat : Int) - 48) % 256) = 10 * n + dv (s[i]'hi) := by
        rw [IntKind.wrap_u64, IntKind.wrap_u64]
        unfold dv
        have : (10 ^ 18 : Nat) = 1000000000000000000 := by decide
        omega
      rw [hw]
      have hv := val_ge _ (10 * n + dv (s[i]'hi)) hdrop (by unfold dv; omega)
      by_cases hbig : 10 * n + dv (s[i]'hi) > 9223372036854775807
      · rw [if_pos hbig, if_neg (by omega)]
      · rw [if_neg hbig, show wrap64 ((i : Int) + 1) = ((i + 1 : Nat) : Int) by unfold wrap64; omega]
        exact ih (i + 1) k _ (by omega) (by omega) (by omega) (by omega) (by unfold dv; omega) (by unfold dv; omega) (by omega)
/-- The reference's first loop. -/
theorem ref_l0 (s : ByteArray) (hs : s.size ≤ 200) (d : Nat) : ∀ (i k : Nat), s.size - i = d → i ≤ s.size → (s.data.toList.take i).all isDig = true → d < k →
    chancelref2_Parse.l0 k s i = if s.data.toList.all isDig = true then chancelref2_Parse.l1 (k - d - 1) s 0 0 else some (0, 12) := by
  induction d with
  | zero =>
    intro i k h1 h2 h3 h4
    obtain ⟨k, rfl⟩ : ∃ m, k = m + 1 := ⟨k - 1, by omega⟩
    obtain rfl : i = s.size := by omega
    rw [List.take_of_length_le (by simp)] at h3
    simp only [chancelref2_Parse.l0]
    rw [if_neg (by omega), if_pos h3]
    rfl
  | succ d ih =>
    intro i k h1 h2 h3 h4
    obtain ⟨k, rfl⟩ : ∃ m, k = m + 1 := ⟨k - 1, by omega⟩
    have hi : i < s.size := by omega
    simp only [chancelref2_Parse.l0]
    rw [if_pos (by omega), if_pos (by omega), bt_get i hi]
    by_cases hc : isDig (s[i]'hi) = true
    · have := dv_of hc
      unfold dv at this
      rw [if_neg (by omega), if_neg (by omega), show wrap64 ((i : Int) + 1) = ((i + 1 : Nat) : Int) by unfold wrap64; omega,
        ih (i + 1) k (by omega) (by omega) (num_Parse.take_all i hi h3 hc) (by omega), show k + 1 - (d + 1) - 1 = k - d - 1 by omega]
    · have hno : ¬ s.data.toList.all isDig = true := by
        intro e
        rw [List.all_eq_true] at e
        exact hc (e (s[i]'hi) (by show (s.data[i]) ∈ s.data.toList; simp))
      rw [if_neg hno]
      have h' : (((s[i]'hi).toNat : Int) < 48) ∨ ((s[i]'hi).toNat : Int) > 57 := by
        simp [isDig] at hc
        omega
      by_cases h48 : ((s[i]'hi).toNat : Int) < 48
      · rw [if_pos h48]
      · rw [if_neg h48, if_pos (by omega)]
/-- Both read the same. -/
theorem parse_ref (s : ByteArray) (hs : s.size ≤ 200) (k : Nat) (hk : 500 ≤ k) : chancelref2_Parse.f k s = num_Parse.f s := by
  obtain ⟨k, rfl⟩ : ∃ m, k = m + 1 := ⟨k - 1, by omega⟩
  unfold chancelref2_Parse.f num_Parse.f
  rw [if_neg (show ¬ s.size > 9223372036854775807 by omega)]
  by_cases h0 : s.size = 0
  · rw [if_pos (by omega), if_pos h0]
    simp only [chancelref2_Parse.j0, if_true]
  · rw [if_neg (by omega), if_neg h0, if_pos (by omega)]
    have hpos : 0 < s.size := by omega
    have hb0 := bt_get (s := s) 0 hpos
    have main : ¬ (bt s 0 = 48 ∧ 1 < s.size) → chancelref2_Parse.j0 (k + 1) s false = if s.data.toList.all isDig = true then num_Parse.go s.data.toList 0 else some (0, 12) := by
      intro hz
      simp only [chancelref2_Parse.j0, Bool.false_eq_true, if_false]
      have := ref_l0 s hs s.size 0 k (by omega) (by omega) rfl (by omega)
      rw [show ((0 : Nat) : Int) = 0 from rfl] at this
      rw [this]
      by_cases hd : s.data.toList.all isDig = true
      · rw [if_pos hd, if_pos hd, go_eq _ _ hd (by omega) (by omega)]
        have := ref_l1 s hs hd s.size 0 (k - s.size - 1) 0 (by omega) (by omega) (by omega) (by omega) (by omega) (by decide) (by omega)
        rw [show ((0 : Nat) : Int) = 0 from rfl, List.drop_zero] at this
        rw [this]
        by_cases h19 : s.size ≤ 19
        · simp only [h19, and_true]
        · have hdig := num_Parse.dig_at hd 0 hpos
          have e := num_Parse.drop_at (s := s) 0 hpos
          rw [List.drop_zero] at e
          have hd' := hd
          rw [e] at hd'
          simp only [List.all_cons, Bool.and_eq_true] at hd'
          have hlen : (s.data.toList.drop (0 + 1)).length = s.size - 1 := by simp
          have hbig := val_big (s.data.toList.drop (0 + 1)) (10 * 0 + dv (s[0]'hpos)) hd'.2 (by unfold dv; omega)
          rw [hlen] at hbig
          have hp : 10 ^ 19 ≤ 10 ^ (s.size - 1) := Nat.pow_le_pow_right (by decide) (by omega)
          have hp19 : (10 ^ 19 : Nat) = 10000000000000000000 := by decide
          have h1 : 1 ≤ 10 * 0 + dv (s[0]'hpos) := by
            have : bt s 0 ≠ 48 := fun e => hz ⟨e, by omega⟩
            rw [show (0 : Int) = ((0 : Nat) : Int) from rfl, hb0] at this
            unfold dv
            omega
          have hmul : (1 : Int) * ((10 ^ (s.size - 1) : Nat) : Int) ≤ (10 * 0 + dv (s[0]'hpos)) * ((10 ^ (s.size - 1) : Nat) : Int) := Int.mul_le_mul_of_nonneg_right h1 (Int.natCast_nonneg _)
          have hv : val s.data.toList 0 = val (s.data.toList.drop (0 + 1)) (10 * 0 + dv (s[0]'hpos)) := by
            rw [e]; rfl
          rw [if_neg (by omega), if_neg (by omega)]
      · rw [if_neg hd, if_neg hd]
    by_cases h48 : bt s 0 = 48
    · rw [if_pos h48]
      by_cases h1 : 1 < s.size
      · rw [if_pos ⟨h48, h1⟩, show decide ((s.size : Int) > 1) = true from decide_eq_true (by omega)]
        simp only [chancelref2_Parse.j0, if_true]
      · rw [if_neg (fun e => h1 e.2), show decide ((s.size : Int) > 1) = false from decide_eq_false (by omega)]
        exact main (fun e => h1 e.2)
    · rw [if_neg h48, if_neg (fun e => h48 e.1)]
      exact main (fun e => h48 e.1)
/-- The reference's digits. -/
theorem nDigits_le : ∀ (k u : Nat), u < 10 ^ (k + 1) → Lib.nDigits u ≤ k + 1
  | 0, u, h => by rw [Lib.nDigits_small (by simpa using h)]; exact Nat.le_refl _
  | k + 1, u, h => by
    by_cases hu : u < 10
    · rw [Lib.nDigits_small hu]; omega
    · rw [Lib.nDigits_big hu]
      have := nDigits_le k (u / 10) (by rw [Nat.pow_succ] at h; omega)
      omega
theorem one_digit (u : Nat) (h : u < 10) : (strOfNums ([(IntKind.u64.wrap (48 + (u : Int))) % 256] : List Int)).data.toList = [UInt8.ofNat (48 + u)] := by
  rw [IntKind.wrap_u64, show (48 + (u : Int)) % 18446744073709551616 % 256 = ((48 + u : Nat) : Int) by omega]
  rfl
theorem digits_eq : ∀ (k u : Nat), u < 10 ^ (k + 1) → u < 18446744073709551616 → k ≤ 100 → ∃ t, chancelref2_digits.f (k + 1) (u : Int) = some t ∧ t.data.toList = Lib.decDigits u
  | 0, u, h, _, _ => by
    have h10 : u < 10 := by simpa using h
    simp only [chancelref2_digits.f]
    rw [if_neg (by omega)]
    exact ⟨_, rfl, by rw [one_digit u h10, Lib.decDigits_one h10]⟩
  | k + 1, u, h, hu, hk => by
    by_cases h10 : u < 10
    · simp only [chancelref2_digits.f]
      rw [if_neg (by omega)]
      exact ⟨_, rfl, by rw [one_digit u h10, Lib.decDigits_one h10]⟩
    · have hlt : u / 10 < 10 ^ (k + 1) := by rw [Nat.pow_succ] at h; omega
      obtain ⟨t, ht, et⟩ := digits_eq k (u / 10) hlt (by omega) (by omega)
      have hlt2 : u % 10 < 10 ^ (k + 1) := by
        have : 10 ≤ 10 ^ (k + 1) := by rw [Nat.pow_succ]; have := Nat.one_le_pow k 10 (by decide); omega
        omega
      obtain ⟨v, hv, ev⟩ := digits_eq k (u % 10) hlt2 (by omega) (by omega)
      have e1 : IntKind.u64.wrap (Int.tdiv (u : Int) 10) = ((u / 10 : Nat) : Int) := by
        rw [show Int.tdiv (u : Int) 10 = ((u / 10 : Nat) : Int) from rfl, IntKind.wrap_u64]; omega
      have e2 : Int.tmod (u : Int) 10 = ((u % 10 : Nat) : Int) := rfl
      have st : t.size ≤ k + 1 := by
        have := congrArg List.length et
        rw [Lib.decDigits_length, Array.length_toList] at this
        have := nDigits_le k _ hlt
        show t.data.size ≤ _
        omega
      have sv : v.size ≤ k + 1 := by
        have := congrArg List.length ev
        rw [Lib.decDigits_length, Array.length_toList] at this
        have := nDigits_le k _ hlt2
        show v.data.size ≤ _
        omega
      rw [chancelref2_digits.f, if_pos (by omega), e1, e2, ht, Option.bind_some, hv, Option.bind_some, if_pos (by omega)]
      refine ⟨_, rfl, ?_⟩
      rw [Go.Joins.data_append, et, ev, Lib.decDigits_one (by omega : u % 10 < 10)]
      conv => rhs; rw [Lib.decDigits, dif_neg h10]
theorem text_ref (a : Int) (ha : InR a) (k : Nat) (hk : 20 ≤ k) : ∃ t, chancelref2_Text.f k a = some t ∧ t.data.toList = Lib.itoa a := by
  unfold chancelref2_Text.f
  have key : ∀ u : Nat, u < 18446744073709551616 → ∃ t, chancelref2_digits.f k (u : Int) = some t ∧ t.data.toList = Lib.decDigits u ∧ t.size ≤ 20 := by
    intro u hu
    have hlt : u < 10 ^ (19 + 1) := by
      have : (10 ^ (19 + 1) : Nat) = 100000000000000000000 := by decide
      omega
    obtain ⟨t, ht, et⟩ := digits_eq 19 u hlt hu (by omega)
    refine ⟨t, ?_, et, ?_⟩
    · obtain ⟨m, rfl⟩ : ∃ m, k = 20 + m := ⟨k - 20, by omega⟩
      clear hk
      induction m with
      | zero => exact ht
      | succ m ih => exact chancelref2_digits.mono_l (20 + m) (u : Int) t ih
    · have := congrArg List.length et
      rw [Lib.decDigits_length, Array.length_toList] at this
      have := nDigits_le 19 _ hlt
      show t.data.size ≤ _
      omega
  unfold InR at ha
  unfold Lib.itoa
  by_cases h0 : a < 0
  · rw [if_pos h0, if_pos h0]
    have e : IntKind.u64.wrap (-(IntKind.u64.wrap a)) = ((a.natAbs : Nat) : Int) := by rw [IntKind.wrap_u64, IntKind.wrap_u64]; omega
    obtain ⟨t, ht, et, st⟩ := key a.natAbs (by omega)
    rw [e, ht, Option.bind_some, if_pos (by omega)]
    refine ⟨_, rfl, ?_⟩
    rw [Go.Joins.data_append, et]
    rfl
  · rw [if_neg h0, if_neg h0]
    have e : IntKind.u64.wrap a = ((a.toNat : Nat) : Int) := by rw [IntKind.wrap_u64]; omega
    obtain ⟨t, ht, et, st⟩ := key a.toNat (by omega)
    rw [e, ht, Option.bind_some]
    exact ⟨t, rfl, et⟩
/-- What is written without a sign is read again. -/
theorem dec_dig (u : Nat) : (Lib.decDigits u).all isDig = true ∧ val (Lib.decDigits u) 0 = u ∧ ((Lib.decDigits u).head? = some 48 → u = 0) := by
  induction u using Nat.strongRecOn with
  | _ u ih =>
    have one : ∀ d : Nat, d < 10 → isDig (UInt8.ofNat (48 + d)) = true ∧ dv (UInt8.ofNat (48 + d)) = d := by
      intro d hd
      have : (UInt8.ofNat (48 + d)).toNat = 48 + d := by
        rw [UInt8.toNat_ofNat']
        omega
      unfold dv
      simp only [isDig, this]
      simp
      omega
    by_cases h : u < 10
    · rw [Lib.decDigits_one h]
      obtain ⟨h1, h2⟩ := one u h
      refine ⟨by rw [List.all_cons, h1]; rfl, by simp only [val, h2]; omega, ?_⟩
      intro e
      simp only [List.head?_cons, Option.some.injEq] at e
      rw [e] at h2
      unfold dv at h2
      have : (48 : UInt8).toNat = 48 := rfl
      omega
    · rw [Lib.decDigits, dif_neg h]
      obtain ⟨i1, i2, i3⟩ := ih (u / 10) (by omega)
      obtain ⟨h1, h2⟩ := one (u % 10) (by omega)
      refine ⟨by rw [List.all_append, i1, List.all_cons, h1]; rfl, by rw [val_append, i2]; simp only [val, h2]; omega, ?_⟩
      intro e
      have hne : Lib.decDigits (u / 10) ≠ [] := by
        intro e0
        have e1 := congrArg List.length e0
        rw [Lib.decDigits_length] at e1
        have := Lib.nDigits_pos (u / 10)
        have e2 : ([] : List UInt8).length = 0 := rfl
        omega
      have : (Lib.decDigits (u / 10)).head? = some 48 := by
        rw [List.head?_append] at e
        cases hh : (Lib.decDigits (u / 10)).head? with
        | none => exact absurd (List.head?_eq_none_iff.1 hh) hne
        | some x => rw [hh] at e; simpa using e
      have := i3 this
      omega
theorem parse_text (a : Int) (ha : InR a) : num_Parse.f ⟨(Lib.itoa a).toArray⟩ = if a < 0 then some (0, 12) else some (a, 0) := by
  have hlen : ∀ u : Nat, u < 18446744073709551616 → 1 ≤ (Lib.decDigits u).length ∧ (Lib.decDigits u).length ≤ 20 := by
    intro u hu
    rw [Lib.decDigits_length]
    exact ⟨Lib.nDigits_pos u, nDigits_le 19 u (by have : (10 ^ (19 + 1) : Nat) = 100000000000000000000 := by decide
                                                  omega)⟩
  unfold InR at ha
  have hsz : (⟨(Lib.itoa a).toArray⟩ : ByteArray).size = (Lib.itoa a).length := by simp [ByteArray.size]
  unfold num_Parse.f
  rw [hsz]
  unfold Lib.itoa
  by_cases h0 : a < 0
  · rw [if_pos h0, if_pos h0]
    have hl := hlen a.natAbs (by omega)
    rw [if_neg (by simp; omega), if_neg (by simp), if_neg, if_neg]
    · simp [isDig]
    · intro e
      have e1 := e.1
      rw [bt_head] at e1
      have : (45 : UInt8).toNat = 45 := rfl
      omega
  · rw [if_neg h0, if_neg h0]
    have hl := hlen a.toNat (by omega)
    obtain ⟨d1, d2, d3⟩ := dec_dig a.toNat
    rw [if_neg (by omega), if_neg (by omega), if_neg, if_pos (by simpa using d1)]
    · show num_Parse.go (Lib.decDigits a.toNat) 0 = _
      rw [go_eq _ _ d1 (by omega) (by omega), d2, if_pos (by omega), show ((a.toNat : Nat) : Int) = a by omega]
    · rintro ⟨e1, e2⟩
      cases hd : Lib.decDigits a.toNat with
      | nil => rw [hd] at hl; simp at hl
      | cons c l =>
        have hc : c = 48 := by
          rw [hd, bt_head] at e1
          have e1' : c.toNat = (48 : UInt8).toNat := by
            have : (48 : UInt8).toNat = 48 := rfl
            omega
          exact UInt8.toNat_inj.1 e1'
        have := d3 (by rw [hd, hc]; rfl)
        rw [this, Lib.decDigits_one (by omega)] at e2
        simp at e2
theorem NumTexts : chancellaw2_NumTexts.Pure := by
  intro a s hw _
  have ha := inR_of_wf hw
  refine ⟨501, ?_⟩
  unfold chancellaw2_NumTexts.f
  rw [known_true]
  simp only [Option.bind_some, if_true]
  by_cases h200 : (s.size : Int) > 200
  · rw [if_pos h200]
  · rw [if_neg h200, parse_ref s (by omega) 501 (by omega)]
    have hp : ∃ p, num_Parse.f s = some p := by
      unfold num_Parse.f
      rw [if_neg (by omega)]
      split
      · exact ⟨_, rfl⟩
      split
      · exact ⟨_, rfl⟩
      split
      · rename_i hd
        rw [go_eq _ _ hd (by omega) (by omega)]
        split <;> exact ⟨_, rfl⟩
      · exact ⟨_, rfl⟩
    obtain ⟨p, hp⟩ := hp
    have ht : num_Text.f a = some ⟨(Lib.itoa a).toArray⟩ := by unfold num_Text.f; rw [if_pos ha]
    obtain ⟨t, et, htl⟩ := text_ref a ha 501 (by omega)
    rw [hp, ht, et]
    simp only [Option.bind_some, if_true]
    rw [Lib.toList_data, Lib.toList_data, htl]
    simp only [bne_self_eq_false, chancellaw2_NumTexts.j0, Bool.false_eq_true, if_false]
    rw [parse_text a ha]
    by_cases h0 : a < 0
    · rw [if_pos h0, Option.bind_some, if_pos h0]; rfl
    · rw [if_neg h0, Option.bind_some, if_neg h0]; simp
end Go.Proofs.YtlhpkapcehjolaaDoor.Pure
