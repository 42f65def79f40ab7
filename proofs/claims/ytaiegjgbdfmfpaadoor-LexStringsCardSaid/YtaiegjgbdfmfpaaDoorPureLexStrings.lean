import Derived.Test.YtaiegjgbdfmfpaaDoorLexBlankLib
import Derived.Test.YtaiegjgbdfmfpaaDoorReadAll
import Derived.Test.YtaiegjgbdfmfpaaDoorGLStr
/-! LexStrings: a quoted text is one token, whatever stands in it. -/
namespace Go.Proofs.YtaiegjgbdfmfpaaDoor.Pure
open Go.RowKit Go.Proofs.YtaiegjgbdfmfpaaDoor.GL Go.Proofs.YtaiegjgbdfmfpaaDoor.HandL Go.Proofs.YtaiegjgbdfmfpaaDoorW.PrintWords Go.Proofs.YtaiegjgbdfmfpaaDoorW.PrintLast
def inner5 : List ByteArray := [(⟨#[47, 47, 32, 110, 111]⟩ : ByteArray), (⟨#[32, 43, 32]⟩ : ByteArray), (⟨#[34]⟩ : ByteArray), (⟨#[97, 32, 98]⟩ : ByteArray), (⟨#[]⟩ : ByteArray)]
theorem inner_txt : ∀ x ∈ inner5, ∃ ss : List Int, (∀ r ∈ ss, isR r) ∧ ss.length ≤ 5 ∧ x = txt ss := by
  intro x hx
  unfold inner5 at hx
  simp only [List.mem_cons, List.not_mem_nil, or_false] at hx
  rcases hx with rfl | rfl | rfl | rfl | rfl
  · exact ⟨[47, 47, 32, 110, 111], by decide, by decide, by decide +kernel⟩
  · exact ⟨[32, 43, 32], by decide, by decide, by decide +kernel⟩
  · exact ⟨[34], by decide, by decide, by decide +kernel⟩
  · exact ⟨[97, 32, 98], by decide, by decide, by decide +kernel⟩
  · exact ⟨[], by decide, by decide, by decide +kernel⟩
theorem strings_end (rs ss : List Int) (hr : ∀ r ∈ rs, isR r) (hs : ∀ r ∈ ss, isR r) (hrl : rs.length ≤ 25) (hsl : ss.length ≤ 5) (k : Nat) (hk : 2000000 ≤ k) :
    ((chancelref1_Of.f k rs).bind fun bt232 => (if (wrap64 ((bt232.1.size : Int) + ((txt ss).size : Int))) > 30 then (some true) else (if bt232.1.size + (txt ss).size ≤ 9223372036854775807 then ((chancelref1_Quote.f k (bt232.1 ++ (txt ss))).bind fun t234 => (if 1 + t234.size ≤ 9223372036854775807 then (if ((⟨#[32]⟩ : ByteArray) ++ t234).size + 10 ≤ 9223372036854775807 then ((lex_Tokens.f k (((⟨#[32]⟩ : ByteArray) ++ t234) ++ (⟨#[32, 47, 47, 32, 98, 101, 104, 105, 110, 100]⟩ : ByteArray))).bind fun bt235 => (if bt235.2 = 0 then (if (bt235.1.length : Int) = 1 then (if 0 < (bt235.1.length : Int) then (if ((rd_T35 bt235.1 0).f0) = 3 then (if ((rd_T35 bt235.1 0).f1).toList = (bt232.1 ++ (txt ss)).toList then (some (((rd_T35 bt235.1 0).f3) == 1)) else (some false)) else (some false)) else (none)) else (some false)) else (some false))) else (none)) else (none))) else (none)))) = some true := by
  have hb : ∀ r ∈ rs ++ ss, isR r := by
    intro r h
    rcases List.mem_append.1 h with h | h
    · exact hr r h
    · exact hs r h
  have k1 : rs.length < 1000000 := by omega
  have k2 : rs.length < k := by omega
  have hlen : (rs ++ ss).length = rs.length + ss.length := List.length_append
  have l30 : (rs ++ ss).length ≤ 30 := by omega
  have l1000 : (rs ++ ss).length ≤ 1000 := Nat.le_trans l30 (by decide)
  have k20 : 20000 ≤ k := Nat.le_trans (by decide) hk
  have q1 : (txt rs).size ≤ 100 := by rw [txt_size]; exact Nat.le_trans (encA_len rs).2 (by omega)
  have q2 : (txt ss).size ≤ 20 := by rw [txt_size]; exact Nat.le_trans (encA_len ss).2 (by omega)
  have b1 : (txt rs).size + (txt ss).size ≤ 9223372036854775807 := Nat.le_trans (Nat.add_le_add q1 q2) (by decide)
  have qz : (qtd (rs ++ ss)).size ≤ 182 := by
    rw [qtd_size]
    have := shows_len (rs ++ ss) hb
    omega
  have sum : ∀ m n : Nat, m ≤ 100 → n ≤ 20 → wrap64 ((m : Int) + (n : Int)) = ((m + n : Nat) : Int) := by intro m n hm hn; unfold wrap64; omega
  have low : ∀ n : Nat, n ≤ 182 → 1 + n ≤ 9223372036854775807 ∧ 1 + n + 10 ≤ 9223372036854775807 ∧ 1 + n + 10 ≤ 600 := by intro n hn; omega
  have hw := sum _ _ q1 q2
  have lo := low _ qz
  clear sum low
  rw [of_eq rs hr k1 k k2, Option.bind_some]
  show (if (wrap64 (((txt rs).size : Int) + ((txt ss).size : Int))) > 30 then (some true) else (if (txt rs).size + (txt ss).size ≤ 9223372036854775807 then ((chancelref1_Quote.f k ((txt rs) ++ (txt ss))).bind fun t234 => (if 1 + t234.size ≤ 9223372036854775807 then (if ((⟨#[32]⟩ : ByteArray) ++ t234).size + 10 ≤ 9223372036854775807 then ((lex_Tokens.f k (((⟨#[32]⟩ : ByteArray) ++ t234) ++ (⟨#[32, 47, 47, 32, 98, 101, 104, 105, 110, 100]⟩ : ByteArray))).bind fun bt235 => (if bt235.2 = 0 then (if (bt235.1.length : Int) = 1 then (if 0 < (bt235.1.length : Int) then (if ((rd_T35 bt235.1 0).f0) = 3 then (if ((rd_T35 bt235.1 0).f1).toList = ((txt rs) ++ (txt ss)).toList then (some (((rd_T35 bt235.1 0).f3) == 1)) else (some false)) else (some false)) else (none)) else (some false)) else (some false))) else (none)) else (none))) else (none))) = _
  rw [hw]
  by_cases h30 : (((txt rs).size + (txt ss).size : Nat) : Int) > 30
  · rw [if_pos h30]
  · rw [if_neg h30, if_pos b1, txt_append, refq_txt (rs ++ ss) hb l1000 k k20, Option.bind_some]
    have e1 : ((⟨#[32]⟩ : ByteArray) ++ qtd (rs ++ ss)).size = 1 + (qtd (rs ++ ss)).size := by rw [ByteArray.size_append]; rfl
    have e2 : (((⟨#[32]⟩ : ByteArray) ++ qtd (rs ++ ss)) ++ (⟨#[32, 47, 47, 32, 98, 101, 104, 105, 110, 100]⟩ : ByteArray)).size = 1 + (qtd (rs ++ ss)).size + 10 := by rw [ByteArray.size_append, e1]; rfl
    have e3 : (((⟨#[32]⟩ : ByteArray) ++ qtd (rs ++ ss)) ++ (⟨#[32, 47, 47, 32, 98, 101, 104, 105, 110, 100]⟩ : ByteArray)).data.toList = 32 :: (34 :: (showsL (rs ++ ss) ++ [34]) ++ [32, 47, 47, 32, 98, 101, 104, 105, 110, 100]) := by
      rw [Go.Joins.data_append, Go.Joins.data_append, qtd_data]
      rfl
    have hov2 : Over ([32, 47, 47, 32, 98, 101, 104, 105, 110, 100] : List UInt8) 10 := Over.blank 32 _ 9 (by decide) (Over.remend [32, 98, 101, 104, 105, 110, 100] (by decide))
    have hlx : Lx (34 :: (showsL (rs ++ ss) ++ [34]) ++ [32, 47, 47, 32, 98, 101, 104, 105, 110, 100]) 1 [⟨3, txt (rs ++ ss), 0, ((1 : Nat) : Int)⟩] 0 := by
      have hq : (34 :: (showsL (rs ++ ss) ++ [34])).length = (showsL (rs ++ ss)).length + 2 := by rw [List.length_cons, List.length_append, List.length_singleton]
      refine Lx.tok _ 1 3 _ 0 0 ((showsL (rs ++ ss)).length + 2) 10 (1 + ((showsL (rs ++ ss)).length + 2) + 10) [] [] 0 (by simp) (next_str (rs ++ ss) hb l30 _) (Nat.le_add_left 1 _) (by simp) ?_ ?_ rfl (Lx.nil _)
      · rw [List.drop_left' hq]; exact hov2
      · rw [← List.drop_drop, List.drop_left' hq]; rfl
    have hov : Over (32 :: (34 :: (showsL (rs ++ ss) ++ [34]) ++ [32, 47, 47, 32, 98, 101, 104, 105, 110, 100])) 1 := Over.blank 32 _ 0 (by decide) (over_stop_let 34 _ (by decide) (by decide))
    have htx : Tx (32 :: (34 :: (showsL (rs ++ ss) ++ [34]) ++ [32, 47, 47, 32, 98, 101, 104, 105, 110, 100])) := tx_app (a := [32]) (tx_ascii _ (by decide)) (tx_app (tx_qtd _ hb) (tx_ascii _ (by decide)))
    have hz2 : (((⟨#[32]⟩ : ByteArray) ++ qtd (rs ++ ss)) ++ (⟨#[32, 47, 47, 32, 98, 101, 104, 105, 110, 100]⟩ : ByteArray)).size ≤ 600 := by rw [e2]; exact lo.2.2
    have ht := tokens_eq _ hz2 (tx_check _ (by rw [e3]; exact htx) (Nat.le_trans hz2 (by decide))) (o := 1) (by rw [e3]; exact hov) (by rw [e3]; exact hlx) k hk
    rw [if_neg (by rw [List.length_singleton]; decide), if_pos rfl] at ht
    rw [if_pos lo.1, if_pos (by rw [e1]; exact lo.2.1), ht, Option.bind_some, if_pos (by rfl), if_pos (by rfl), if_pos (by show (0 : Int) < 1; decide), if_pos (by rfl), if_pos (by rfl)]
    rfl
theorem strings_loop (l : List Int) (hl : l.length ≤ 25) (ss : List Int) (hs : ∀ r ∈ ss, isR r) (hsl : ss.length ≤ 5) (d : Nat) : ∀ (i k : Nat) (acc : List Int), l.length - i = d → i ≤ l.length → acc.length = i → (∀ r ∈ acc, isR r) → 2000000 + d < k →
    chancellaw4_LexStrings.l0 k l (txt ss) acc (i : Int) = some true := by
  induction d with
  | zero =>
    intro i k acc h1 h2 h3 h4 h5
    obtain ⟨k, rfl⟩ : ∃ m, k = m + 1 := ⟨k - 1, by omega⟩
    rw [chancellaw4_LexStrings.l0, if_neg (by omega)]
    exact strings_end acc ss h4 hs (by omega) hsl k (by omega)
  | succ d ih =>
    intro i k acc h1 h2 h3 h4 h5
    obtain ⟨k, rfl⟩ : ∃ m, k = m + 1 := ⟨k - 1, by omega⟩
    obtain ⟨t, e, t0, t1⟩ := lxwithin_eq (rd l (i : Int)) 26 (by omega) (by omega)
    have hw : wrap32 (wrap64 (97 + t)) = 97 + t := by unfold wrap32 wrap64; omega
    rw [chancellaw4_LexStrings.l0, if_pos (by omega), if_pos (by omega), e, Option.bind_some, if_pos (by omega), hw, lx_next i (by omega)]
    refine ih (i + 1) k (acc ++ [97 + t]) (by omega) (by omega) (by rw [List.length_append, h3]; rfl) ?_ (by omega)
    intro r hr
    rcases List.mem_append.1 hr with h | h
    · exact h4 r h
    · rw [List.mem_singleton] at h
      rw [h]
      exact ⟨by omega, by omega, by omega⟩
theorem LexStrings : chancellaw4_LexStrings.Pure := by
  intro l a hl _ _
  suffices h : ∀ k, 3000000 ≤ k → chancellaw4_LexStrings.f k l a = some true from ⟨3000000, h _ (Nat.le_refl _)⟩
  intro k hk
  unfold chancellaw4_LexStrings.f
  obtain ⟨n, e1, n0, n1⟩ := lxwithin_eq a 5 (by omega) (by omega)
  obtain ⟨n, rfl⟩ : ∃ m : Nat, n = m := ⟨n.toNat, by omega⟩
  rw [lxknown_true k (by omega), Option.bind_some, if_pos rfl, Option.bind_some, e1, Option.bind_some, if_pos n0, if_pos (by show (n : Int) < 5; exact n1)]
  have hm : rdOf ByteArray.empty inner5 (n : Int) ∈ inner5 := by
    unfold rdOf
    rw [Int.toNat_natCast, List.getD_eq_getElem?_getD, List.getElem?_eq_getElem (show n < inner5.length by show n < 5; omega)]
    exact List.getElem_mem _
  obtain ⟨ss, s1, s2, s3⟩ := inner_txt _ hm
  show chancellaw4_LexStrings.l0 k l (rdOf ByteArray.empty inner5 (n : Int)) [] 0 = _
  rw [s3]
  exact strings_loop l hl ss s1 s2 l.length 0 k [] (by omega) (by omega) rfl (fun _ h => by cases h) (by omega)
end Go.Proofs.YtaiegjgbdfmfpaaDoor.Pure
