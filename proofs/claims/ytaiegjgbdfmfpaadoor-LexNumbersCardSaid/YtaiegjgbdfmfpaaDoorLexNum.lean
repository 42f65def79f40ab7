import Derived.Test.YtaiegjgbdfmfpaaDoorLexLib
import Derived.Test.YtaiegjgbdfmfpaaDoorGL17
import Derived.Lib.ItoaNum
import Derived.Lib.SmallJoins
/-! Numbers' digits: what they come to, how they are written. -/
namespace Go.Proofs.YtaiegjgbdfmfpaaDoor.Pure
open Go.RowKit Go.Proofs.YtaiegjgbdfmfpaaDoor.GL Go.Proofs.YtaiegjgbdfmfpaaDoor.HandL Go.Proofs.YtaiegjgbdfmfpaaDoorW.PrintWords Go.Proofs.YtaiegjgbdfmfpaaDoorW.PrintLast
/-- x is a number of 64 bits. -/
abbrev InR (x : Int) : Prop := -9223372036854775808 ≤ x ∧ x ≤ 9223372036854775807
theorem inR_of_wf {x : Int} (h : (Lit.int .i64 x).wf = true) : InR x := by
  simpa [Lit.wf, IntKind.min, IntKind.max, IntKind.signed, IntKind.bits, InR] using h
theorem wrap_in {x : Int} (h : InR x) : wrap64 x = x := by unfold InR at h; unfold wrap64; omega
theorem wrap_by (x : Int) : ∃ m, wrap64 x = x - 18446744073709551616 * m := ⟨(x + 9223372036854775808) / 18446744073709551616, by unfold wrap64; omega⟩
theorem wrap_inR (x : Int) : InR (wrap64 x) := by unfold InR wrap64; omega
theorem wrap_cases (x : Int) (h1 : -18446744073709551616 ≤ x) (h2 : x ≤ 18446744073709551615) :
    (x < -9223372036854775808 ∧ wrap64 x = x + 18446744073709551616) ∨ (InR x ∧ wrap64 x = x) ∨ (9223372036854775807 < x ∧ wrap64 x = x - 18446744073709551616) := by
  unfold InR wrap64; omega
theorem add_eq {a b : Int} (ha : InR a) (hb : InR b) : num_Add.f a b = if InR (a + b) then some (a + b, 0) else some (0, 17) := by
  unfold num_Add.f
  have hw := wrap_cases (a + b) (by unfold InR at *; omega) (by unfold InR at *; omega)
  unfold InR at *
  rcases hw with ⟨h1, h2⟩ | ⟨h1, h2⟩ | ⟨h1, h2⟩ <;> rw [h2]
  · rw [if_neg (show ¬ b = 0 by omega), show (decide (a + b + 18446744073709551616 > a)) = true from decide_eq_true (by omega), show (decide (b > 0)) = false from decide_eq_false (by omega),
      if_neg (show ¬ ((true == false) = true) by decide), if_neg (show ¬ (-9223372036854775808 ≤ a + b ∧ a + b ≤ 9223372036854775807) by omega)]
  · rw [if_pos h1]
    split
    · rfl
    · rw [if_pos]
      by_cases hb0 : b > 0
      · rw [show (decide (a + b > a)) = true from decide_eq_true (by omega), show (decide (b > 0)) = true from decide_eq_true hb0]; rfl
      · rw [show (decide (a + b > a)) = false from decide_eq_false (by omega), show (decide (b > 0)) = false from decide_eq_false hb0]; rfl
  · rw [if_neg (show ¬ b = 0 by omega), show (decide (a + b - 18446744073709551616 > a)) = false from decide_eq_false (by omega), show (decide (b > 0)) = true from decide_eq_true (by omega),
      if_neg (show ¬ ((false == true) = true) by decide), if_neg (show ¬ (-9223372036854775808 ≤ a + b ∧ a + b ≤ 9223372036854775807) by omega)]
/-- The heart of a product's check. -/
theorem prod_check {a b : Int} (ha : InR a) (hb : InR b) (hb0 : b ≠ 0) (h1 : ¬ (a = -1 ∧ b = -9223372036854775808)) (h2 : ¬ (b = -1 ∧ a = -9223372036854775808)) :
    wrap64 (Int.tdiv (wrap64 (a * b)) b) = a ↔ InR (a * b) := by
  constructor
  · intro h
    by_cases hb1 : b = -1
    · subst hb1
      unfold InR at *
      omega
    · obtain ⟨m, hm⟩ := wrap_by (a * b)
      have hc := wrap_inR (a * b)
      generalize wrap64 (a * b) = c at h hm hc
      have hq : InR (Int.tdiv c b) := by
        have e : (Int.tdiv c b).natAbs = c.natAbs / b.natAbs := Int.natAbs_tdiv c b
        unfold InR at *
        by_cases hb2 : b.natAbs = 1
        · have : b = 1 := by omega
          subst this
          rw [Int.tdiv_one]
          exact hc
        · have : c.natAbs / b.natAbs ≤ c.natAbs / 2 := Nat.div_le_div_left (by omega) (by omega)
          omega
      rw [wrap_in hq] at h
      have e1 := Int.mul_tdiv_add_tmod c b
      have e2 : (Int.tmod c b).natAbs = c.natAbs % b.natAbs := Int.natAbs_tmod c b
      have e3 := Nat.mod_lt c.natAbs (show 0 < b.natAbs by omega)
      rw [h, Int.mul_comm b a] at e1
      have : m = 0 := by
        unfold InR at *
        omega
      subst this
      have : c = a * b := by omega
      rw [← this]
      exact hc
  · intro h
    rw [wrap_in h, Int.mul_tdiv_cancel _ hb0, wrap_in ha]
theorem mul_eq {a b : Int} (ha : InR a) (hb : InR b) (k : Nat) : num_Mul.f (k + 1) a b = if InR (a * b) then some (a * b, 0) else some (0, 17) := by
  unfold num_Mul.f
  by_cases ha0 : a = 0
  · subst ha0
    rw [if_pos rfl, if_pos (by unfold InR; omega)]
    simp only [num_Mul.j0, if_true, Int.zero_mul]
  · rw [if_neg ha0]
    by_cases hb0 : b = 0
    · subst hb0
      rw [if_pos (by unfold InR; omega)]
      simp only [num_Mul.j0, Int.mul_zero, beq_self_eq_true, if_true]
    · have hbf : (b == 0) = false := beq_eq_false_iff_ne.mpr hb0
      rw [hbf]
      simp only [num_Mul.j0, Bool.false_eq_true, if_false]
      by_cases h1 : a = -1 ∧ b = -9223372036854775808
      · obtain ⟨rfl, rfl⟩ := h1
        rw [if_pos rfl, if_pos rfl, if_neg (by unfold InR; omega)]
      · by_cases h2 : b = -1 ∧ a = -9223372036854775808
        · obtain ⟨rfl, rfl⟩ := h2
          rw [if_neg (by omega), if_pos rfl, if_pos rfl, if_neg (by unfold InR; omega)]
        · have hp := prod_check ha hb hb0 h1 h2
          have key : (if (wrap64 (Int.tdiv (wrap64 (a * b)) b)) = a then (some (wrap64 (a * b), (0 : Int))) else (some (0, 17))) = if InR (a * b) then some (a * b, 0) else some (0, 17) := by
            by_cases hr : InR (a * b)
            · rw [if_pos (hp.2 hr), if_pos hr, wrap_in hr]
            · rw [if_neg (fun h => hr (hp.1 h)), if_neg hr]
          rw [if_neg hb0, key]
          by_cases e1 : a = -1
          · rw [if_pos e1, if_neg (fun h => h1 ⟨e1, h⟩)]
            by_cases e2 : b = -1
            · rw [if_pos e2, if_neg (fun h => h2 ⟨e2, h⟩)]
            · rw [if_neg e2]
          · rw [if_neg e1]
            by_cases e2 : b = -1
            · rw [if_pos e2, if_neg (fun h => h2 ⟨e2, h⟩)]
            · rw [if_neg e2]
/-- A digit's number. -/
abbrev dv (c : UInt8) : Int := (c.toNat : Int) - 48
/-- What digits come to, from n on. -/
def val : List UInt8 → Int → Int
  | [], n => n
  | c :: l, n => val l (10 * n + dv c)
theorem dv_of {c : UInt8} (h : isDig c = true) : 0 ≤ dv c ∧ dv c ≤ 9 := by
  simp [isDig] at h
  unfold dv
  omega
theorem val_ge : ∀ (l : List UInt8) (n : Int), l.all isDig = true → 0 ≤ n → n ≤ val l n
  | [], n, _, _ => Int.le_refl n
  | c :: l, n, h, hn => by
    simp only [List.all_cons, Bool.and_eq_true] at h
    have := dv_of h.1
    have := val_ge l (10 * n + dv c) h.2 (by omega)
    simp only [val]
    omega
theorem val_big : ∀ (l : List UInt8) (n : Int), l.all isDig = true → 0 ≤ n → n * (10 ^ l.length : Nat) ≤ val l n
  | [], n, _, _ => by simp [val]
  | c :: l, n, h, hn => by
    simp only [List.all_cons, Bool.and_eq_true] at h
    have := dv_of h.1
    have ih := val_big l (10 * n + dv c) h.2 (by omega)
    simp only [val, List.length_cons]
    refine Int.le_trans ?_ ih
    rw [Nat.pow_succ, Nat.mul_comm, Int.natCast_mul, ← Int.mul_assoc]
    exact Int.mul_le_mul_of_nonneg_right (by omega) (Int.natCast_nonneg _)
theorem val_append : ∀ (l m : List UInt8) (n : Int), val (l ++ m) n = val m (val l n)
  | [], _, _ => rfl
  | _ :: l, m, _ => val_append l m _
/-- The program's loop. -/
theorem go_two : ∀ (l : List UInt8) (n : Int), l.all isDig = true → 0 ≤ n → n ≤ 9223372036854775807 → (val l n ≤ 9223372036854775807 → num_Parse.go l n = some (val l n, 0)) ∧ (9223372036854775807 < val l n → num_Parse.go l n = some (0, 17))
  | [], n, _, _, h => ⟨fun _ => rfl, fun h' => absurd h' (by show ¬ 9223372036854775807 < n; omega)⟩
  | c :: l, n, h, h0, h1 => by
    simp only [List.all_cons, Bool.and_eq_true] at h
    have hd := dv_of h.1
    have hv := val_ge l (10 * n + dv c) h.2 (by omega)
    have hi : InR n := by unfold InR; omega
    show (val l (10 * n + dv c) ≤ 9223372036854775807 → num_Parse.go (c :: l) n = some (val l (10 * n + dv c), 0)) ∧ (9223372036854775807 < val l (10 * n + dv c) → num_Parse.go (c :: l) n = some (0, 17))
    have hm1 := mul_eq hi (show InR 10 by unfold InR; omega) 0
    by_cases hm : InR (n * 10)
    · rw [if_pos hm] at hm1
      have ha1 := add_eq hm (show InR (dv c) by unfold InR; omega)
      by_cases ha : InR (n * 10 + dv c)
      · rw [if_pos ha, show n * 10 + dv c = 10 * n + dv c by omega] at ha1
        have e : num_Parse.go (c :: l) n = num_Parse.go l (10 * n + dv c) := by
          simp only [num_Parse.go, hm1, Option.bind_some, if_true]
          show ((num_Add.f (n * 10) (dv c)).bind fun u => _) = _
          simp only [ha1, Option.bind_some, if_true]
        rw [e]
        exact go_two l _ h.2 (by omega) (by unfold InR at ha; omega)
      · rw [if_neg ha] at ha1
        have e : num_Parse.go (c :: l) n = some (0, 17) := by
          simp only [num_Parse.go, hm1, Option.bind_some, if_true]
          show ((num_Add.f (n * 10) (dv c)).bind fun u => _) = _
          simp only [ha1, Option.bind_some]
          rfl
        exact ⟨fun h' => absurd h' (by unfold InR at ha hi; omega), fun _ => e⟩
    · rw [if_neg hm] at hm1
      have e : num_Parse.go (c :: l) n = some (0, 17) := by
        simp only [num_Parse.go, hm1, Option.bind_some]
        rfl
      exact ⟨fun h' => absurd h' (by unfold InR at hm hi; omega), fun _ => e⟩
theorem go_eq (l : List UInt8) (n : Int) (h : l.all isDig = true) (h0 : 0 ≤ n) (h1 : n ≤ 9223372036854775807) : num_Parse.go l n = if val l n ≤ 9223372036854775807 then some (val l n, 0) else some (0, 17) := by
  by_cases e : val l n ≤ 9223372036854775807
  · rw [if_pos e, (go_two l n h h0 h1).1 e]
  · rw [if_neg e, (go_two l n h h0 h1).2 (by omega)]
theorem bt_head (c : UInt8) (l : List UInt8) : bt ⟨(c :: l).toArray⟩ 0 = (c.toNat : Int) := by
  unfold bt
  rw [dif_pos (show (0 : Int).toNat < (⟨(c :: l).toArray⟩ : ByteArray).size from Nat.succ_pos _)]
  rfl
/-- The reference's digits. -/
theorem nDigits_le : ∀ (k u : Nat), u < 10 ^ (k + 1) → Lib.nDigits u ≤ k + 1
  | 0, u, h => by rw [Lib.nDigits_small (by simpa using h)]; exact Nat.le_refl _
  | k + 1, u, h => by
    by_cases hu : u < 10
    · rw [Lib.nDigits_small hu]; omega
    · rw [Lib.nDigits_big hu]
      have := nDigits_le k (u / 10) (by rw [Nat.pow_succ] at h; omega)
      omega
theorem one_digit (u : Nat) (h : u < 10) : (strOfNums ([(IntKind.u64.wrap (48 + (u : Int))) % 256] : List Int)).data.toList = [UInt8.ofNat (48 + u)] := by
  rw [IntKind.wrap_u64, show (48 + (u : Int)) % 18446744073709551616 % 256 = ((48 + u : Nat) : Int) by omega]
  rfl
theorem digits_eq : ∀ (k u : Nat), u < 10 ^ (k + 1) → u < 18446744073709551616 → k ≤ 100 → ∃ t, chancelref2_digits.f (k + 1) (u : Int) = some t ∧ t.data.toList = Lib.decDigits u
  | 0, u, h, _, _ => by
    have h10 : u < 10 := by simpa using h
    simp only [chancelref2_digits.f]
    rw [if_neg (by omega)]
    exact ⟨_, rfl, by rw [one_digit u h10, Lib.decDigits_one h10]⟩
  | k + 1, u, h, hu, hk => by
    by_cases h10 : u < 10
    · simp only [chancelref2_digits.f]
      rw [if_neg (by omega)]
      exact ⟨_, rfl, by rw [one_digit u h10, Lib.decDigits_one h10]⟩
    · have hlt : u / 10 < 10 ^ (k + 1) := by rw [Nat.pow_succ] at h; omega
      obtain ⟨t, ht, et⟩ := digits_eq k (u / 10) hlt (by omega) (by omega)
      have hlt2 : u % 10 < 10 ^ (k + 1) := by
        have : 10 ≤ 10 ^ (k + 1) := by rw [Nat.pow_succ]; have := Nat.one_le_pow k 10 (by decide); omega
        omega
      obtain ⟨v, hv, ev⟩ := digits_eq k (u % 10) hlt2 (by omega) (by omega)
      have e1 : IntKind.u64.wrap (Int.tdiv (u : Int) 10) = ((u / 10 : Nat) : Int) := by
        rw [show Int.tdiv (u : Int) 10 = ((u / 10 : Nat) : Int) from rfl, IntKind.wrap_u64]; omega
      have e2 : Int.tmod (u : Int) 10 = ((u % 10 : Nat) : Int) := rfl
      have st : t.size ≤ k + 1 := by
        have := congrArg List.length et
        rw [Lib.decDigits_length, Array.length_toList] at this
        have := nDigits_le k _ hlt
        show t.data.size ≤ _
        omega
      have sv : v.size ≤ k + 1 := by
        have := congrArg List.length ev
        rw [Lib.decDigits_length, Array.length_toList] at this
        have := nDigits_le k _ hlt2
        show v.data.size ≤ _
        omega
      rw [chancelref2_digits.f, if_pos (by omega), e1, e2, ht, Option.bind_some, hv, Option.bind_some, if_pos (by omega)]
      refine ⟨_, rfl, ?_⟩
      rw [Go.Joins.data_append, et, ev, Lib.decDigits_one (by omega : u % 10 < 10)]
      conv => rhs; rw [Lib.decDigits, dif_neg h10]
theorem text_ref (a : Int) (ha : InR a) (k : Nat) (hk : 20 ≤ k) : ∃ t, chancelref2_Text.f k a = some t ∧ t.data.toList = Lib.itoa a := by
  unfold chancelref2_Text.f
  have key : ∀ u : Nat, u < 18446744073709551616 → ∃ t, chancelref2_digits.f k (u : Int) = some t ∧ t.data.toList = Lib.decDigits u ∧ t.size ≤ 20 := by
    intro u hu
    have hlt : u < 10 ^ (19 + 1) := by
      have : (10 ^ (19 + 1) : Nat) = 100000000000000000000 := by decide
      omega
    obtain ⟨t, ht, et⟩ := digits_eq 19 u hlt hu (by omega)
    refine ⟨t, ?_, et, ?_⟩
    · obtain ⟨m, rfl⟩ : ∃ m, k = 20 + m := ⟨k - 20, by omega⟩
      clear hk
      induction m with
      | zero => exact ht
      | succ m ih => exact chancelref2_digits.mono_l (20 + m) (u : Int) t ih
    · have := congrArg List.length et
      rw [Lib.decDigits_length, Array.length_toList] at this
      have := nDigits_le 19 _ hlt
      show t.data.size ≤ _
      omega
  unfold InR at ha
  unfold Lib.itoa
  by_cases h0 : a < 0
  · rw [if_pos h0, if_pos h0]
    have e : IntKind.u64.wrap (-(IntKind.u64.wrap a)) = ((a.natAbs : Nat) : Int) := by rw [IntKind.wrap_u64, IntKind.wrap_u64]; omega
    obtain ⟨t, ht, et, st⟩ := key a.natAbs (by omega)
    rw [e, ht, Option.bind_some, if_pos (by omega)]
    refine ⟨_, rfl, ?_⟩
    rw [Go.Joins.data_append, et]
    rfl
  · rw [if_neg h0, if_neg h0]
    have e : IntKind.u64.wrap a = ((a.toNat : Nat) : Int) := by rw [IntKind.wrap_u64]; omega
    obtain ⟨t, ht, et, st⟩ := key a.toNat (by omega)
    rw [e, ht, Option.bind_some]
    exact ⟨t, rfl, et⟩
/-- What is written without a sign is read again. -/
theorem dec_dig (u : Nat) : (Lib.decDigits u).all isDig = true ∧ val (Lib.decDigits u) 0 = u ∧ ((Lib.decDigits u).head? = some 48 → u = 0) := by
  induction u using Nat.strongRecOn with
  | _ u ih =>
    have one : ∀ d : Nat, d < 10 → isDig (UInt8.ofNat (48 + d)) = true ∧ dv (UInt8.ofNat (48 + d)) = d := by
      intro d hd
      have : (UInt8.ofNat (48 + d)).toNat = 48 + d := by
        rw [UInt8.toNat_ofNat']
        omega
      unfold dv
      simp only [isDig, this]
      simp
      omega
    by_cases h : u < 10
    · rw [Lib.decDigits_one h]
      obtain ⟨h1, h2⟩ := one u h
      refine ⟨by rw [List.all_cons, h1]; rfl, by simp only [val, h2]; omega, ?_⟩
      intro e
      simp only [List.head?_cons, Option.some.injEq] at e
      rw [e] at h2
      unfold dv at h2
      have : (48 : UInt8).toNat = 48 := rfl
      omega
    · rw [Lib.decDigits, dif_neg h]
      obtain ⟨i1, i2, i3⟩ := ih (u / 10) (by omega)
      obtain ⟨h1, h2⟩ := one (u % 10) (by omega)
      refine ⟨by rw [List.all_append, i1, List.all_cons, h1]; rfl, by rw [val_append, i2]; simp only [val, h2]; omega, ?_⟩
      intro e
      have hne : Lib.decDigits (u / 10) ≠ [] := by
        intro e0
        have e1 := congrArg List.length e0
        rw [Lib.decDigits_length] at e1
        have := Lib.nDigits_pos (u / 10)
        have e2 : ([] : List UInt8).length = 0 := rfl
        omega
      have : (Lib.decDigits (u / 10)).head? = some 48 := by
        rw [List.head?_append] at e
        cases hh : (Lib.decDigits (u / 10)).head? with
        | none => exact absurd (List.head?_eq_none_iff.1 hh) hne
        | some x => rw [hh] at e; simpa using e
      have := i3 this
      omega
end Go.Proofs.YtaiegjgbdfmfpaaDoor.Pure
