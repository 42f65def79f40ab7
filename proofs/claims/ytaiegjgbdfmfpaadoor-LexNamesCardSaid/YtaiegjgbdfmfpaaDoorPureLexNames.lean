import Derived.Test.YtaiegjgbdfmfpaaDoorLexLib3
import Derived.Test.YtaiegjgbdfmfpaaDoorGL19
/-! LexNames: letters, digits and strokes that do not begin with a digit are one name; digits ahead of letters are a number and a name. -/
namespace Go.Proofs.YtaiegjgbdfmfpaaDoor.Pure
open Go.RowKit Go.Proofs.YtaiegjgbdfmfpaaDoor.GL Go.Proofs.YtaiegjgbdfmfpaaDoor.HandL Go.Proofs.YtaiegjgbdfmfpaaDoorW.PrintWords Go.Proofs.YtaiegjgbdfmfpaaDoorW.PrintLast
def isNm (c : UInt8) : Bool := isLet c || isFig c
theorem nm_low (c : UInt8) (h : isNm c = true) : c.toNat < 128 := by
  unfold isNm at h
  rw [Bool.or_eq_true] at h
  rcases h with h | h
  · exact (let_stop c h).2.2.2.2
  · exact (fig_stop c h).2.2.2.2
theorem ident_from (s : ByteArray) (h : s.data.toList.all isNm = true) : ∀ fuel pos, pos ≠ 0 → identFrom s fuel pos = true
  | 0, _, _ => rfl
  | fuel + 1, pos, h0 => by
    simp only [identFrom]
    by_cases hp : pos < s.size
    · have hc : isNm (s[pos]'hp) = true := by
        rw [List.all_eq_true] at h
        exact h (s[pos]'hp) (by show (s.data[pos]) ∈ s.data.toList; simp)
      have hlow := nm_low _ hc
      rw [if_pos hp, decode_ascii s pos hp hlow, if_neg (by simp only; omega), if_pos, ident_from s h fuel _ (by simp only; omega)]
      simp only [UInt8.ofNat_toNat]
      rw [decide_eq_true h0, Bool.true_and]
      exact hc
    · rw [if_neg hp]
theorem head_at {s : ByteArray} {c : UInt8} {w : List UInt8} (e : s.data.toList = c :: w) (h : 0 < s.size) : s[0]'h = c := by
  show s.data[0] = c
  have h1 : s.data.toList[0]'(by rw [e]; simp) = c := by simp [e]
  simpa using h1
theorem ident_yes (s : ByteArray) (c : UInt8) (w : List UInt8) (e : s.data.toList = c :: w) (hc : isLet c = true) (hw : w.all isNm = true) (hl : s.size ≤ 12) : lex_Ident.f s = some true := by
  have hs := lx_len s
  rw [e, List.length_cons] at hs
  have h0 : 0 < s.size := by omega
  unfold lex_Ident.f
  rw [if_pos (by omega), decide_eq_true (show 1 ≤ s.size by omega), decide_eq_true hl]
  obtain ⟨n, hn⟩ : ∃ n, s.size = n + 1 := ⟨s.size - 1, by omega⟩
  have hlow := (let_stop c hc).2.2.2.2
  have hd : Utf8.decode s 0 = (c.toNat, 1) := by
    have := decode_ascii s 0 h0 (by rw [head_at e h0]; exact hlow)
    rw [head_at e h0] at this
    exact this
  have : identFrom s s.size 0 = true := by
    rw [hn]
    simp only [identFrom]
    rw [if_pos h0, hd, if_neg (by simp only; omega), if_pos]
    · exact ident_from s (by rw [e, List.all_cons, hw]; unfold isNm; rw [hc]; rfl) n 1 (by decide)
    · simp only [UInt8.ofNat_toNat]
      rw [hc]
      rfl
  rw [this]
  rfl
theorem ident_no (s : ByteArray) (c : UInt8) (w : List UInt8) (e : s.data.toList = c :: w) (hc : isLet c = false) (hlow : c.toNat < 128) (hl : s.size ≤ 1000) : lex_Ident.f s = some false := by
  have hs := lx_len s
  rw [e, List.length_cons] at hs
  have h0 : 0 < s.size := by omega
  unfold lex_Ident.f
  obtain ⟨n, hn⟩ : ∃ n, s.size = n + 1 := ⟨s.size - 1, by omega⟩
  have hd : Utf8.decode s 0 = (c.toNat, 1) := by
    have := decode_ascii s 0 h0 (by rw [head_at e h0]; exact hlow)
    rw [head_at e h0] at this
    exact this
  have : identFrom s s.size 0 = false := by
    rw [hn]
    simp only [identFrom]
    rw [if_pos h0, hd, if_neg (by simp only; omega), if_neg]
    simp only [UInt8.ofNat_toNat]
    rw [hc, Bool.false_or, decide_eq_false (by decide : ¬ (0 : Nat) ≠ 0), Bool.false_and]
    decide
  rw [if_pos (by omega), this]
  rfl
theorem pick (n : Nat) (h : n < 10) : ∃ c, ((⟨#[97, 98, 99, 88, 89, 90, 95, 48, 49, 57]⟩ : ByteArray).extract n (n + 1)).data.toList = [c] ∧ isNm c = true ∧ (n ≤ 6 → isLet c = true) := by
  have : n = 0 ∨ n = 1 ∨ n = 2 ∨ n = 3 ∨ n = 4 ∨ n = 5 ∨ n = 6 ∨ n = 7 ∨ n = 8 ∨ n = 9 := by omega
  rcases this with rfl | rfl | rfl | rfl | rfl | rfl | rfl | rfl | rfl | rfl <;> exact ⟨_, by rw [lx_take]; rfl, by decide, by decide⟩
def Good (l : List UInt8) : Prop := l = [] ∨ ∃ c w, l = c :: w ∧ isLet c = true ∧ w.all isNm = true
theorem good_snoc (l : List UInt8) (d : UInt8) (h : Good l) (hd : isNm d = true) (h0 : l = [] → isLet d = true) : Good (l ++ [d]) := by
  rcases h with rfl | ⟨c, w, rfl, hc, hw⟩
  · exact Or.inr ⟨d, [], rfl, h0 rfl, rfl⟩
  · exact Or.inr ⟨c, w ++ [d], rfl, hc, by rw [List.all_append, hw, List.all_cons, hd]; rfl⟩
theorem names_end (l : List Int) (s : ByteArray) (i : Int) (hg : Good s.data.toList) (hs : s.size ≤ 12) (k : Nat) (hk : 2000000 ≤ k) :
    chancellaw4_LexNames.j1 (k + 1) l s (⟨#[97, 98, 99, 88, 89, 90, 95, 48, 49, 57]⟩ : ByteArray) i false = some true := by
  rw [chancellaw4_LexNames.j1, if_neg (by decide)]
  have hls := lx_len s
  rcases hg with he | ⟨c, w, he, hc, hw⟩
  · rw [if_pos (by rw [Lib.toList_data, he]), lex_Ident.f, if_pos (by omega), Option.bind_some, decide_eq_false (by rw [he] at hls; simp at hls; omega : ¬ 1 ≤ s.size), Bool.and_false, Bool.false_and]
    rfl
  · rw [he, List.length_cons] at hls
    have hdat : ((⟨#[55]⟩ : ByteArray) ++ s).data.toList = 55 :: c :: w := by rw [Go.Joins.data_append, he]; rfl
    have hjs : ((⟨#[55]⟩ : ByteArray) ++ s).size = 1 + s.size := by rw [ByteArray.size_append]; rfl
    have hwl : (w.all fun c => decide (c.toNat < 128)) = true := by
      rw [List.all_eq_true] at hw ⊢
      exact fun x hx => decide_eq_true (nm_low x (hw x hx))
    have hcl := (let_stop c hc).2.2.2.2
    have ck1 : text_Check.f s = some 0 := check_ascii s (by omega) (by rw [he, List.all_cons, hwl, decide_eq_true hcl]; rfl)
    have ck2 : text_Check.f ((⟨#[55]⟩ : ByteArray) ++ s) = some 0 := check_ascii _ (by omega) (by rw [hdat, List.all_cons, List.all_cons, hwl, decide_eq_true hcl]; rfl)
    have hxs : s = (⟨(c :: w).toArray⟩ : ByteArray) := by
      apply ByteArray.ext
      apply Array.toList_inj.1
      rw [he]
    have t1 := tokens_eq s (by omega) ck1 (o := 0) (by rw [he]; exact over_let c w hc) (by rw [he]; exact lx_name c w hc hw (by omega) 0) k hk
    have h2 : Lx (55 :: c :: w) 0 [⟨2, (⟨#[]⟩ : ByteArray), 7, ((0 : Nat) : Int)⟩, ⟨1, (⟨(c :: w).toArray⟩ : ByteArray), 0, ((1 : Nat) : Int)⟩] 0 := by
      refine Lx.tok (55 :: c :: w) 0 2 _ 7 0 1 0 1 (c :: w) _ 0 (by simp) ?_ (by omega) (by simp) (over_let c w hc) rfl rfl (lx_name c w hc hw (by omega) 1)
      exact next_long 55 [] (c :: w) 7 0 (by decide) rfl (fun d t h => by injection h with h1 _; subst h1; exact (let_stop c hc).2.2.2.1) (by decide +kernel)
    have t2 := tokens_eq ((⟨#[55]⟩ : ByteArray) ++ s) (by omega) ck2 (o := 0) (by rw [hdat]; exact over_fig 55 _ (by decide)) (by rw [hdat]; exact h2) k hk
    rw [if_neg (by rw [List.length_singleton]; decide), if_pos rfl] at t1
    rw [if_neg (by rw [List.length_cons, List.length_singleton]; decide), if_pos rfl] at t2
    rw [if_neg (by rw [Lib.toList_data, he]; simp), t1, Option.bind_some, if_pos (by omega), t2, Option.bind_some, if_pos (by rfl), if_pos (by rfl), if_pos (by show (0 : Int) < 1; decide), if_pos (by rfl), if_pos (by
      show ((⟨(c :: w).toArray⟩ : ByteArray)).toList = s.toList
      rw [← hxs]), ident_yes s c w he hc hw hs, Option.bind_some, if_pos rfl, ident_no _ 55 (c :: w) hdat (by decide) (by decide) (by omega), Option.bind_some, if_neg (by decide), if_pos (by rfl), if_pos (by rfl), if_pos (by show (0 : Int) < 2; decide), if_pos (by show (7 : Int) ≥ 7; decide)]
theorem names_loop (l : List Int) (d : Nat) : ∀ (i k : Nat) (s : ByteArray), 12 - i = d → i ≤ 12 → i ≤ l.length → Good s.data.toList → s.size = i → 2000000 + 2 * d + 2 ≤ k →
    chancellaw4_LexNames.l0 k l s (⟨#[97, 98, 99, 88, 89, 90, 95, 48, 49, 57]⟩ : ByteArray) (i : Int) = some true := by
  induction d with
  | zero =>
    intro i k s h1 h2 h3 hg hs hk
    obtain ⟨k, rfl⟩ : ∃ m, k = m + 2 := ⟨k - 2, by omega⟩
    rw [chancellaw4_LexNames.l0, decide_eq_false (by omega : ¬ (i : Int) < 12), names_end l s _ hg (by omega) k (by omega)]
    split <;> rfl
  | succ d ih =>
    intro i k s h1 h2 h3 hg hs hk
    obtain ⟨k, rfl⟩ : ∃ m, k = m + 2 := ⟨k - 2, by omega⟩
    rw [chancellaw4_LexNames.l0]
    by_cases hil : (i : Int) < (l.length : Int)
    · rw [if_pos hil, decide_eq_true (by omega : (i : Int) < 12), chancellaw4_LexNames.j1, if_pos rfl, if_pos (by omega), if_pos hil]
      obtain ⟨t, ht, t0, t1⟩ := lxwithin_eq (rd l (i : Int)) 10 (by omega) (by omega)
      obtain ⟨n, rfl⟩ : ∃ n : Nat, t = n := ⟨t.toNat, by omega⟩
      rw [show (((⟨#[97, 98, 99, 88, 89, 90, 95, 48, 49, 57]⟩ : ByteArray).size : Nat) : Int) = 10 from rfl, ht, Option.bind_some]
      have hw : wrap64 ((i : Int) + 1) = ((i + 1 : Nat) : Int) := by unfold wrap64; omega
      have go : ∀ (x : ByteArray) (c : UInt8), x.data.toList = [c] → isNm c = true → (i = 0 → isLet c = true) → (if s.size + x.size ≤ 9223372036854775807 then (chancellaw4_LexNames.l0 k l (s ++ x) (⟨#[97, 98, 99, 88, 89, 90, 95, 48, 49, 57]⟩ : ByteArray) (wrap64 ((i : Int) + 1))) else (none)) = some true := by
        intro x c hx hc hc0
        have hxs := lx_len x
        rw [hx] at hxs
        have e1 : [c].length = 1 := rfl
        rw [if_pos (by omega), hw]
        refine ih (i + 1) k (s ++ x) (by omega) (by omega) (by omega) ?_ (by rw [ByteArray.size_append]; omega) (by omega)
        rw [Go.Joins.data_append, hx]
        refine good_snoc _ c hg hc ?_
        intro he
        have := lx_len s
        rw [he] at this
        have e2 : ([] : List UInt8).length = 0 := rfl
        exact hc0 (by omega)
      by_cases hi0 : (i : Int) = 0
      · rw [if_pos hi0]
        by_cases h6 : (n : Int) > 6
        · obtain ⟨c, e1, e2, e3⟩ := pick 0 (by decide)
          rw [if_pos h6, if_pos (by decide), if_pos (by decide)]
          exact go _ c e1 e2 (fun _ => e3 (by decide))
        · obtain ⟨c, e1, e2, e3⟩ := pick n (by omega)
          have hwn : wrap64 ((n : Int) + 1) = ((n + 1 : Nat) : Int) := by unfold wrap64; omega
          rw [if_neg h6, if_pos (by omega), hwn, if_pos (by omega), if_pos (by omega)]
          exact go _ c e1 e2 (fun _ => e3 (by omega))
      · obtain ⟨c, e1, e2, e3⟩ := pick n (by omega)
        have hwn : wrap64 ((n : Int) + 1) = ((n + 1 : Nat) : Int) := by unfold wrap64; omega
        rw [if_neg hi0, if_pos (by omega), hwn, if_pos (by omega), if_pos (by omega)]
        exact go _ c e1 e2 (fun h => absurd h (by omega))
    · rw [if_neg hil, names_end l s _ hg (by omega) k (by omega)]
theorem LexNames : chancellaw4_LexNames.Pure := by
  intro l a _ _ _ _
  suffices h : ∀ k, 3000000 ≤ k → chancellaw4_LexNames.f k l a = some true from ⟨3000000, h _ (Nat.le_refl _)⟩
  intro k hk
  unfold chancellaw4_LexNames.f
  rw [lxknown_true k (by omega), Option.bind_some, if_pos rfl]
  exact names_loop l 12 0 k _ rfl (by omega) (by omega) (Or.inl rfl) rfl (by omega)
end Go.Proofs.YtaiegjgbdfmfpaaDoor.Pure
