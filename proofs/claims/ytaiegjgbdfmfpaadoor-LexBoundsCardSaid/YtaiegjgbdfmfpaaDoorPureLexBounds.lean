import Derived.Test.YtaiegjgbdfmfpaaDoorLexLib3
import Derived.Test.YtaiegjgbdfmfpaaDoorGL17
/-! LexBounds: at the bounds the tokens are taken; one more is refused. -/
namespace Go.Proofs.YtaiegjgbdfmfpaaDoor.Pure
open Go.RowKit Go.Proofs.YtaiegjgbdfmfpaaDoor.GL Go.Proofs.YtaiegjgbdfmfpaaDoor.HandL Go.Proofs.YtaiegjgbdfmfpaaDoorW.PrintWords Go.Proofs.YtaiegjgbdfmfpaaDoorW.PrintLast
def rep (c : UInt8) (n : Nat) : ByteArray := ⟨(List.replicate n c).toArray⟩
theorem rep_data (c : UInt8) (n : Nat) : (rep c n).data.toList = List.replicate n c := rfl
theorem rep_size (c : UInt8) (n : Nat) : (rep c n).size = n := by rw [← lx_len, rep_data, List.length_replicate]
theorem rep_snoc (c : UInt8) (n : Nat) (x : ByteArray) (hx : x.data.toList = [c]) : rep c n ++ x = rep c (n + 1) := by
  apply ByteArray.ext
  apply Array.toList_inj.1
  rw [Go.Joins.data_append, hx, rep_data, rep_data, List.replicate_succ']
theorem rep_ascii (c : UInt8) (hc : c.toNat < 128) (n : Nat) : ((rep c n).data.toList.all fun c => decide (c.toNat < 128)) = true := by
  rw [rep_data, List.all_eq_true]
  intro x hx
  rw [(List.mem_replicate.1 hx).2]
  exact decide_eq_true hc
theorem blanks_over : ∀ m : Nat, Over (List.replicate m 32) m
  | 0 => Over.nil
  | m + 1 => Over.blank 32 _ m (by decide) (blanks_over m)
theorem plus_over (m : Nat) : Over (List.replicate m 43) 0 := by
  cases m with
  | zero => exact Over.nil
  | succ m => exact over_stop_let 43 _ (by decide) (by decide)
theorem plus_lx : ∀ m i : Nat, ∃ ts, Lx (List.replicate m 43) i ts 0 ∧ ts.length = m
  | 0, i => ⟨[], Lx.nil i, rfl⟩
  | m + 1, i => by
    obtain ⟨ts, h1, h2⟩ := plus_lx m (i + 1 + 0)
    refine ⟨_, Lx.tok (43 :: List.replicate m 43) i 4 _ 0 0 1 0 (i + 1 + 0) (List.replicate m 43) ts 0 (by simp) (next_sign 43 _ _ (by decide) (by decide) (by decide) (sign_one 43 _ (by decide) ?_)) (by omega) (by simp) (plus_over m) rfl rfl h1, by rw [List.length_cons, h2]⟩
    intro d t h
    have : d ∈ List.replicate m (43 : UInt8) := by rw [h]; exact List.mem_cons_self
    rw [(List.mem_replicate.1 this).2]
    decide
theorem too_long (s : ByteArray) (h : 600 < s.size) (k : Nat) : lex_Tokens.f k s = some ([], 5) := by
  unfold lex_Tokens.f
  rw [if_pos (by omega)]
theorem b_l0 (n : Nat) (hn : n < 4) (d : Nat) : ∀ (i k : Nat), 599 + n - i = d → i ≤ 599 + n → 2000000 + d < k → chancellaw4_LexBounds.l0 k (n : Int) (rep 32 i) 0 = some true := by
  induction d with
  | zero =>
    intro i k h1 h2 h3
    obtain ⟨k, rfl⟩ : ∃ m, k = m + 1 := ⟨k - 1, by omega⟩
    have hw : wrap64 (599 + (n : Int)) = ((599 + n : Nat) : Int) := by unfold wrap64; omega
    obtain rfl : i = 599 + n := by omega
    rw [chancellaw4_LexBounds.l0, hw, rep_size, if_neg (by omega)]
    by_cases h : (n : Int) > 1
    · rw [if_pos h, too_long _ (by rw [rep_size]; omega) k, Option.bind_some]
      rfl
    · have ho : Over (rep 32 (599 + n)).data.toList (599 + n) := blanks_over _
      rw [if_neg h, tokens_eq (rep 32 (599 + n)) (by rw [rep_size]; omega) (check_ascii _ (by rw [rep_size]; omega) (rep_ascii 32 (by decide) _)) ho (by
        rw [List.drop_of_length_le (by rw [rep_data, List.length_replicate]; exact Nat.le_refl _)]; exact Lx.nil _) k (by omega), if_neg (by decide), if_pos rfl, Option.bind_some]
      rfl
  | succ d ih =>
    intro i k h1 h2 h3
    obtain ⟨k, rfl⟩ : ∃ m, k = m + 1 := ⟨k - 1, by omega⟩
    have hw : wrap64 (599 + (n : Int)) = ((599 + n : Nat) : Int) := by unfold wrap64; omega
    rw [chancellaw4_LexBounds.l0, hw, rep_size, if_pos (by omega), if_pos (by omega), rep_snoc 32 i _ rfl, ih (i + 1) k (by omega) (by omega) (by omega)]
theorem b_l1 (n : Nat) (hn : n < 4) (d : Nat) : ∀ (i k : Nat), 199 + n - i = d → i ≤ 199 + n → 2000000 + d < k → chancellaw4_LexBounds.l1 k (n : Int) (rep 43 i) 0 (i : Int) = some true := by
  induction d with
  | zero =>
    intro i k h1 h2 h3
    obtain ⟨k, rfl⟩ : ∃ m, k = m + 1 := ⟨k - 1, by omega⟩
    have hw : wrap64 (199 + (n : Int)) = ((199 + n : Nat) : Int) := by unfold wrap64; omega
    obtain rfl : i = 199 + n := by omega
    obtain ⟨ts, hx, hl⟩ := plus_lx (199 + n) 0
    have ht := tokens_eq (rep 43 (199 + n)) (by rw [rep_size]; omega) (check_ascii _ (by rw [rep_size]; omega) (rep_ascii 43 (by decide) _)) (plus_over _) hx k (by omega)
    rw [chancellaw4_LexBounds.l1, hw, if_neg (by omega)]
    by_cases h : (n : Int) > 1
    · rw [if_pos h, ht, if_pos (by omega), Option.bind_some]
      rfl
    · rw [if_neg h, ht, if_neg (by omega), if_pos rfl, Option.bind_some]
      rfl
  | succ d ih =>
    intro i k h1 h2 h3
    obtain ⟨k, rfl⟩ : ∃ m, k = m + 1 := ⟨k - 1, by omega⟩
    have hw : wrap64 (199 + (n : Int)) = ((199 + n : Nat) : Int) := by unfold wrap64; omega
    rw [chancellaw4_LexBounds.l1, hw, rep_size, if_pos (by omega), if_pos (by omega), rep_snoc 43 i _ rfl, lx_next i (by omega), ih (i + 1) k (by omega) (by omega) (by omega)]
theorem b_l2 (n : Nat) (hn : n < 4) (d : Nat) : ∀ (i k : Nat), 11 + n - i = d → i ≤ 11 + n → 2000000 + d < k → chancellaw4_LexBounds.l2 k (n : Int) (rep 113 i) 0 = some true := by
  induction d with
  | zero =>
    intro i k h1 h2 h3
    obtain ⟨k, rfl⟩ : ∃ m, k = m + 1 := ⟨k - 1, by omega⟩
    have hw : wrap64 (11 + (n : Int)) = ((11 + n : Nat) : Int) := by unfold wrap64; omega
    obtain rfl : i = 11 + n := by omega
    have hck : text_Check.f (rep 113 (11 + n)) = some 0 := check_ascii _ (by rw [rep_size]; omega) (rep_ascii 113 (by decide) _)
    have hd : (rep 113 (11 + n)).data.toList = 113 :: List.replicate (10 + n) 113 := by rw [rep_data, show 11 + n = (10 + n) + 1 by omega, List.replicate_succ]
    have hov : Over (rep 113 (11 + n)).data.toList 0 := by rw [hd]; exact over_let 113 _ (by decide)
    have hall : ((List.replicate (10 + n) (113 : UInt8)).all fun c => isLet c || isFig c) = true := by
      rw [List.all_eq_true]
      intro x hx
      rw [(List.mem_replicate.1 hx).2]
      decide
    rw [chancellaw4_LexBounds.l2, hw, rep_size, if_neg (by omega)]
    by_cases h : (n : Int) > 1
    · have hx := next_name 113 (List.replicate (10 + n) 113) [] (by decide) hall (fun _ _ h => by cases h)
      rw [List.append_nil, List.length_replicate, if_pos (by omega)] at hx
      rw [if_pos h, tokens_eq (rep 113 (11 + n)) (by rw [rep_size]; omega) hck hov (by rw [hd]; exact Lx.err _ 0 _ 5 (by simp) hx rfl (by decide)) k (by omega), if_neg (by decide), if_neg (by decide), Option.bind_some]
      rfl
    · rw [if_neg h, tokens_eq (rep 113 (11 + n)) (by rw [rep_size]; omega) hck hov (by rw [hd]; exact lx_name 113 _ (by decide) hall (by rw [List.length_replicate]; omega) 0) k (by omega), if_neg (by rw [List.length_singleton]; decide), if_pos rfl, Option.bind_some]
      rfl
  | succ d ih =>
    intro i k h1 h2 h3
    obtain ⟨k, rfl⟩ : ∃ m, k = m + 1 := ⟨k - 1, by omega⟩
    have hw : wrap64 (11 + (n : Int)) = ((11 + n : Nat) : Int) := by unfold wrap64; omega
    rw [chancellaw4_LexBounds.l2, hw, rep_size, if_pos (by omega), if_pos (by omega), rep_snoc 113 i _ rfl, ih (i + 1) k (by omega) (by omega) (by omega)]
theorem b_l3_0 : chancellaw4_LexBounds.l3 1000 0 0 [] 0 = some true := by decide +kernel
theorem b_l3_1 : chancellaw4_LexBounds.l3 1000 1 0 [] 0 = some true := by decide +kernel
theorem b_l3_2 : chancellaw4_LexBounds.l3 1000 2 0 [] 0 = some true := by decide +kernel
theorem b_l3_3 : chancellaw4_LexBounds.l3 1000 3 0 [] 0 = some true := by decide +kernel
theorem b_l3 (n : Nat) (hn : n < 4) (m : Nat) : chancellaw4_LexBounds.l3 (1000 + m) (n : Int) 0 [] 0 = some true := by
  induction m with
  | zero =>
    have : n = 0 ∨ n = 1 ∨ n = 2 ∨ n = 3 := by omega
    rcases this with rfl | rfl | rfl | rfl
    · exact b_l3_0
    · exact b_l3_1
    · exact b_l3_2
    · exact b_l3_3
  | succ m ih => exact (chancellaw4_LexBounds.mono_l (1000 + m)).2.2.2 (n : Int) 0 [] 0 true ih
theorem LexBounds : chancellaw4_LexBounds.Pure := by
  intro a b _ _
  suffices h : ∀ k, 3000000 ≤ k → chancellaw4_LexBounds.f k a b = some true from ⟨3000000, h _ (Nat.le_refl _)⟩
  intro k hk
  unfold chancellaw4_LexBounds.f
  rw [lxknown_true k (by omega), Option.bind_some, if_pos rfl]
  obtain ⟨n, e1, n0, n1⟩ := lxwithin_eq b 4 (by omega) (by omega)
  obtain ⟨c, e2, c0, c1⟩ := lxwithin_eq a 4 (by omega) (by omega)
  obtain ⟨n, rfl⟩ : ∃ m : Nat, n = m := ⟨n.toNat, by omega⟩
  rw [e1, Option.bind_some, e2, Option.bind_some]
  have : c = 0 ∨ c = 1 ∨ c = 2 ∨ c = 3 := by omega
  rcases this with rfl | rfl | rfl | rfl
  · rw [if_pos rfl]
    exact b_l0 n (by omega) (599 + n) 0 k rfl (by omega) (by omega)
  · rw [if_neg (by decide), if_pos rfl]
    exact b_l1 n (by omega) (199 + n) 0 k rfl (by omega) (by omega)
  · rw [if_neg (by decide), if_neg (by decide), if_pos rfl]
    exact b_l2 n (by omega) (11 + n) 0 k rfl (by omega) (by omega)
  · rw [if_neg (by decide), if_neg (by decide), if_neg (by decide), if_pos rfl]
    obtain ⟨m, rfl⟩ : ∃ m, k = 1000 + m := ⟨k - 1000, by omega⟩
    exact b_l3 n (by omega) m
end Go.Proofs.YtaiegjgbdfmfpaaDoor.Pure
