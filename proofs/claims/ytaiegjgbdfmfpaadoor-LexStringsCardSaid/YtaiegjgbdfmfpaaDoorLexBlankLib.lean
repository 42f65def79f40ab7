import Derived.Test.YtaiegjgbdfmfpaaDoorLexLib3
import Derived.Test.YtaiegjgbdfmfpaaDoorReadAll
import Derived.Test.YtaiegjgbdfmfpaaDoorGL15
/-! Pieces of a source, each with a blank behind it. -/
namespace Go.Proofs.YtaiegjgbdfmfpaaDoor.Pure
open Go.RowKit Go.Proofs.YtaiegjgbdfmfpaaDoor.GL Go.Proofs.YtaiegjgbdfmfpaaDoor.HandL Go.Proofs.YtaiegjgbdfmfpaaDoorW.PrintWords Go.Proofs.YtaiegjgbdfmfpaaDoorW.PrintLast
/-- Runes' bytes. -/
def Tx (l : List UInt8) : Prop := ∃ rs : List Int, (∀ r ∈ rs, isR r) ∧ l = encA rs
theorem tx_nil : Tx [] := ⟨[], (fun _ h => by cases h), rfl⟩
theorem tx_app {a b : List UInt8} (ha : Tx a) (hb : Tx b) : Tx (a ++ b) := by
  obtain ⟨x, hx, rfl⟩ := ha
  obtain ⟨y, hy, rfl⟩ := hb
  refine ⟨x ++ y, fun r hr => ?_, (encA_append x y).symm⟩
  rcases List.mem_append.1 hr with h | h
  · exact hx r h
  · exact hy r h
theorem tx_rune (r : Int) (h : isR r) : Tx (encB r) := ⟨[r], fun x hx => by rw [List.mem_singleton] at hx; rw [hx]; exact h, by show encB r = encB r ++ []; rw [List.append_nil]⟩
theorem tx_one (c : UInt8) (h : c.toNat < 128) : Tx [c] := by
  have := tx_rune (c.toNat : Int) ⟨by omega, by omega, by omega⟩
  rw [encB_one (by omega), Int.toNat_natCast, UInt8.ofNat_toNat] at this
  exact this
theorem tx_ascii : ∀ l : List UInt8, (l.all fun c => decide (c.toNat < 128)) = true → Tx l
  | [], _ => tx_nil
  | c :: l, h => by
    rw [List.all_cons, Bool.and_eq_true] at h
    exact tx_app (tx_one c (of_decide_eq_true h.1)) (tx_ascii l h.2)
theorem tx_check (s : ByteArray) (h : Tx s.data.toList) (hs : s.size ≤ 100000) : text_Check.f s = some 0 := by
  obtain ⟨rs, hr, e⟩ := h
  have hl := encA_len rs
  have hz := lx_len s
  rw [e] at hz
  have hx : s = txt rs := by
    apply ByteArray.ext
    apply Array.toList_inj.1
    rw [e]
    rfl
  rw [hx]
  exact check_txt rs hr (by omega)
theorem hx_low (n : Nat) (h : n < 16) : (hx n).toNat < 128 := by
  have := (by decide +kernel : ∀ x : Fin 16, (hx x.val).toNat < 128) ⟨n, h⟩
  exact this
theorem tx_shown (r : Int) (h : isR r) : Tx (shownL r) := by
  unfold shownL
  split
  · exact tx_ascii _ (by decide)
  split
  · exact tx_ascii _ (by decide)
  split
  · exact tx_ascii _ (by decide)
  split
  · exact tx_ascii _ (by decide)
  split
  next hc =>
    refine tx_app (tx_app (tx_ascii _ (by decide)) ?_) (tx_ascii _ (by decide))
    obtain ⟨n, rfl⟩ : ∃ n : Nat, r = n := ⟨r.toNat, by omega⟩
    rw [Int.toNat_natCast]
    unfold hexL
    split
    · exact tx_one _ (hx_low n (by omega))
    · exact tx_app (tx_one _ (hx_low (n / 16) (by omega))) (tx_one _ (hx_low (n % 16) (by omega)))
  · rw [encode_eq r h]
    exact tx_rune r h
theorem tx_shows : ∀ rs : List Int, (∀ r ∈ rs, isR r) → Tx (showsL rs)
  | [], _ => tx_nil
  | r :: rs, h => tx_app (tx_shown r (h r List.mem_cons_self)) (tx_shows rs fun x hx => h x (List.mem_cons_of_mem _ hx))
theorem tx_qtd (rs : List Int) (h : ∀ r ∈ rs, isR r) : Tx (34 :: (showsL rs ++ [34])) :=
  tx_app (a := [34]) (tx_ascii _ (by decide)) (tx_app (tx_shows rs h) (tx_ascii _ (by decide)))
theorem next_str (rs : List Int) (hr : ∀ r ∈ rs, isR r) (hl : rs.length ≤ 30) (rest : List UInt8) : Next (34 :: (showsL rs ++ [34]) ++ rest) (3, txt rs, 0, 0, (((showsL rs).length + 2 : Nat) : Int), 0) := by
  intro k hk s e hs
  obtain ⟨hb, h0⟩ := head_bt (c := 34) (l := (showsL rs ++ [34]) ++ rest) e
  have hstr : lex_str.f k s = some (3, txt rs, 0, 0, (((showsL rs).length + 2 : Nat) : Int), 0) := by
    unfold lex_str.f
    rw [text_read_eq s hs k (by omega), e, read_quoted rs hr rest, Option.bind_some, if_pos rfl, runes_txt rs hr (by omega), Option.bind_some, if_neg (by omega)]
  unfold lex_next.f
  rw [if_pos (by omega), hb, lex_name.letter, Option.bind_some, if_neg (by decide), digit_eq, Option.bind_some, if_neg (by decide), if_pos (by rfl), hstr, Option.bind_some]
theorem ref_str (rs : List Int) (hr : ∀ r ∈ rs, isR r) (hl : rs.length ≤ 40) (k : Nat) (hk : 2000000 ≤ k) :
    ∃ r, chancelref4_Tokens.f k (qtd rs) = some r ∧ (r.2 = 0 → rs.length ≤ 30) := by
  have hsl := shows_len rs hr
  have hz := qtd_size rs
  have hd := qtd_data rs
  generalize hs : qtd rs = s at hz hd ⊢
  obtain ⟨hb, h0⟩ := head_bt (c := 34) (l := showsL rs ++ [34]) hd
  have hck : text_Check.f s = some 0 := tx_check s (by rw [hd]; exact tx_qtd rs hr) (by omega)
  have hbl0 : chancelref4_blank.f k s 0 = some 0 := by
    obtain ⟨m, rfl⟩ : ∃ m, k = m + 3 := ⟨k - 3, by omega⟩
    unfold chancelref4_blank.f
    rw [chancelref4_blank.l0, if_pos (by omega), if_pos (by decide), hb, if_neg (by decide), if_neg (by decide), if_neg (by decide), show (((((34 : UInt8).toNat : Nat) : Int)) == 13) = false from rfl, chancelref4_blank.j1, if_neg (by decide), if_pos (by decide), if_pos (by omega), hb, if_neg (by decide), chancelref4_blank.j2, if_neg (by decide)]
  have hlet : chancelref4_letter.f (((34 : UInt8).toNat : Nat) : Int) = some false := by decide
  have hfig : chancelref4_figure.f (((34 : UInt8).toNat : Nat) : Int) = some false := by decide
  obtain ⟨k, rfl⟩ : ∃ m, k = m + 2 := ⟨k - 2, by omega⟩
  have hext : (s.extract 0 s.size).data.toList = 34 :: (showsL rs ++ [34]) := by rw [lx_ext, hd]; rfl
  have hexz : (s.extract 0 s.size).size ≤ 1000 := by rw [← lx_len, lx_ext, List.drop_zero, lx_len]; omega
  have hread : ∀ k, 1000000 ≤ k → chancelref1_Read.f k (s.extract (0 : Int).toNat s.size) = some (txt rs, (((showsL rs).length + 2 : Nat) : Int), 0) := by
    intro k hk
    show chancelref1_Read.f k (s.extract 0 s.size) = _
    have := read_quoted rs hr []
    rw [List.append_nil] at this
    rw [ref_read_eq _ (by omega) k (by omega), hext, this]
  have hnext : chancelref4_next.f (k + 1) s 0 = chancelref4_next.j4 (k + 1) (((showsL rs).length + 2 : Nat) : Int) 0 (decide ((rs.length : Int) > 30)) 3 (txt rs) 0 0 := by
    unfold chancelref4_next.f
    rw [if_pos (by decide), if_pos (by omega), hb, hlet, Option.bind_some, if_neg (by decide), hfig, Option.bind_some, if_neg (by decide), if_pos (by rfl), if_pos (by omega), hread (k + 1) (by omega), Option.bind_some, if_pos rfl, ref_runes_txt rs hr (by omega) (k + 1) (by omega), Option.bind_some]
  unfold chancelref4_Tokens.f
  rw [if_neg (by omega), check_ref s (by omega) (k + 2) (by omega), hck, Option.bind_some, if_pos rfl, hbl0, Option.bind_some, chancelref4_Tokens.l0, if_pos (by omega), hnext]
  by_cases h30 : rs.length > 30
  · rw [decide_eq_true (by omega : (rs.length : Int) > 30), chancelref4_next.j4, if_pos rfl, Option.bind_some]
    exact ⟨([], 5), if_neg (by show ¬ (5 : Int) = 0; decide), fun h => absurd h (by show ¬ (5 : Int) = 0; decide)⟩
  · rw [decide_eq_false (by omega : ¬ (rs.length : Int) > 30), chancelref4_next.j4, if_neg (by decide), Option.bind_some]
    have hw : wrap64 (0 + (((showsL rs).length + 2 : Nat) : Int)) = (s.size : Int) := by unfold wrap64; omega
    have hbl : chancelref4_blank.f (k + 1) s (s.size : Int) = some (s.size : Int) := by
      unfold chancelref4_blank.f
      rw [chancelref4_blank.l0, if_neg (by omega)]
    obtain ⟨m, rfl⟩ : ∃ m, k = m + 1 := ⟨k - 1, by omega⟩
    refine ⟨([⟨3, txt rs, 0, 0⟩], 0), ?_, fun _ => by omega⟩
    show (if (0 : Int) = 0 then (if ((([] : List S49).length : Nat) : Int) ≥ 200 then (some (([] : List (S49)), 4)) else (if ([] : List S49).length < 3518437208883 then ((chancelref4_blank.f (m + 1 + 1) s (wrap64 (0 + (((showsL rs).length + 2 : Nat) : Int)))).bind fun t291 => (chancelref4_Tokens.l0 (m + 1 + 1) s (([] : List S49) ++ [(⟨3, txt rs, 0, 0⟩ : S49)]) t291)) else (none))) else (some (([] : List (S49)), (0 : Int)))) = _
    rw [if_pos rfl, if_neg (by decide), if_pos (by decide), hw, hbl, Option.bind_some, chancelref4_Tokens.l0, if_neg (by omega)]
    rfl
/-- A token of a piece, where the piece stands at i. -/
def tokAt (i : Nat) (x : Int × ByteArray × Int × Nat) : S35 := ⟨x.1, x.2.1, x.2.2.1, ((i + x.2.2.2 : Nat) : Int)⟩
/-- A piece that is taken, with a blank behind it. -/
structure Piece (p : List UInt8) : Prop where
  tx : Tx p
  ov : ∀ l, Over (p ++ l) 0
  tk : ∃ q : List (Int × ByteArray × Int × Nat), q.length ≤ 2 ∧ q.Pairwise (fun a b => a.2.2.2 < b.2.2.2) ∧ (∀ x ∈ q, x.2.2.2 < p.length) ∧
    ∀ (c : UInt8) (rest l' : List UInt8) (i o j : Nat) (ts : List S35), isBl c = true → Over (c :: rest) o → (c :: rest).drop o = l' → i + p.length + o = j → Lx l' j ts 0 → Lx (p ++ c :: rest) i (q.map (tokAt i) ++ ts) 0
theorem piece_one (a : UInt8) (p : List UInt8) (kd v z : Int) (t : ByteArray) (htx : Tx (a :: p)) (hov : ∀ l, Over (a :: p ++ l) 0)
    (hn : ∀ c rest, isBl c = true → Next (a :: p ++ c :: rest) (kd, t, v, z, (((a :: p).length : Nat) : Int), 0)) : Piece (a :: p) := by
  refine ⟨htx, hov, [(kd, t, v, 0)], by simp, by simp, by simp, ?_⟩
  intro c rest l' i o j ts hc ho hl hj hx
  refine Lx.tok (a :: p ++ c :: rest) i kd t v z (a :: p).length o j l' ts 0 (by simp) (hn c rest hc) (by simp) (by simp) ?_ ?_ hj hx
  · rw [List.drop_left' rfl]; exact ho
  · rw [← List.drop_drop, List.drop_left' rfl, hl]
theorem blank_let {c : UInt8} (h : isBl c = true) {r : List UInt8} : ∀ d t, c :: r = d :: t → (isLet d || isFig d) = false := by
  intro d t e
  injection e with e1 _
  subst e1
  exact (blank_ends c h).1
theorem piece_name (a : UInt8) (p : List UInt8) (ha : isLet a = true) (hp : (p.all fun c => isLet c || isFig c) = true) (hl : p.length < 12) : Piece (a :: p) := by
  refine piece_one a p 1 0 0 (⟨(a :: p).toArray⟩ : ByteArray) (tx_ascii _ ?_) (fun l => over_let a _ ha) ?_
  · rw [List.all_cons, decide_eq_true (let_stop a ha).2.2.2.2, Bool.true_and, List.all_eq_true]
    rw [List.all_eq_true] at hp
    intro x hx
    have := hp x hx
    rw [Bool.or_eq_true] at this
    rcases this with h | h
    · exact decide_eq_true (let_stop x h).2.2.2.2
    · exact decide_eq_true (fig_stop x h).2.2.2.2
  · intro c rest hc
    have h := next_name a p (c :: rest) ha hp (blank_let hc)
    rw [if_neg (by omega)] at h
    exact h
theorem piece_num (a : UInt8) (p : List UInt8) (x : Int) (ha : isFig a = true) (hp : p.all isFig = true) (h : num_Parse.f (⟨(a :: p).toArray⟩ : ByteArray) = some (x, 0)) : Piece (a :: p) := by
  refine piece_one a p 2 x 0 (⟨#[]⟩ : ByteArray) (tx_ascii _ ?_) (fun l => over_fig a _ ha) ?_
  · rw [List.all_cons, decide_eq_true (fig_stop a ha).2.2.2.2, Bool.true_and, List.all_eq_true]
    rw [List.all_eq_true] at hp
    exact fun y hy => decide_eq_true (fig_stop y (hp y hy)).2.2.2.2
  · intro c rest hc
    exact next_long a p (c :: rest) x 0 ha hp (fun d t e => by injection e with e1 _; subst e1; exact (blank_ends c hc).2.1) h
theorem single_props (c : UInt8) (h : isSingle c = true) : isLet c = false ∧ isFig c = false ∧ c ≠ 34 ∧ c ≠ 47 ∧ isBl c = false ∧ c.toNat < 128 := by
  have := (by decide +kernel : ∀ x : Fin 256, isSingle (UInt8.ofNat x.val) = true → isLet (UInt8.ofNat x.val) = false ∧ isFig (UInt8.ofNat x.val) = false ∧ UInt8.ofNat x.val ≠ 34 ∧ UInt8.ofNat x.val ≠ 47 ∧ isBl (UInt8.ofNat x.val) = false ∧ (UInt8.ofNat x.val).toNat < 128) ⟨c.toNat, c.toNat_lt⟩
  simp only [UInt8.ofNat_toNat] at this
  exact this h
theorem piece_single (a : UInt8) (h : isSingle a = true) : Piece [a] := by
  obtain ⟨h1, h2, h3, h4, h5, h6⟩ := single_props a h
  refine piece_one a [] 4 0 0 (⟨#[a]⟩ : ByteArray) (tx_one a h6) (fun l => over_stop_let a l h5 h4) ?_
  intro c rest hc
  refine next_sign a (c :: rest) _ h1 h2 h3 (sign_one a _ h ?_)
  intro d t e
  injection e with e1 _
  subst e1
  exact (blank_ends c hc).2.2.1
theorem piece_pair (a b : UInt8) (h1 : isLet a = false) (h2 : isFig a = false) (h3 : a ≠ 34) (h4 : a ≠ 47) (h5 : isBl a = false) (h6 : a.toNat < 128) (h7 : b.toNat < 128)
    (h : ∀ r, signL (a :: b :: r) eight = (4, (⟨#[a, b]⟩ : ByteArray), 0, 0, 2, 0)) : Piece [a, b] := by
  refine piece_one a [b] 4 0 0 (⟨#[a, b]⟩ : ByteArray) (tx_app (a := [a]) (tx_one a h6) (tx_one b h7)) (fun l => over_stop_let a _ h5 h4) ?_
  intro c rest _
  exact next_sign a (b :: c :: rest) _ h1 h2 h3 (h (c :: rest))
theorem piece_str (rs : List Int) (hr : ∀ r ∈ rs, isR r) (hl : rs.length ≤ 30) : Piece (34 :: (showsL rs ++ [34])) := by
  refine piece_one 34 (showsL rs ++ [34]) 3 0 0 (txt rs) (tx_qtd rs hr) (fun l => over_stop_let 34 _ (by decide) (by decide)) ?_
  intro c rest _
  have := next_str rs hr hl (c :: rest)
  rw [show (34 :: (showsL rs ++ [34])).length = (showsL rs).length + 2 by simp]
  exact this
theorem piece_9a : Piece [57, 97] := by
  refine ⟨tx_ascii _ (by decide), fun l => over_fig 57 _ (by decide), [(2, (⟨#[]⟩ : ByteArray), 9, 0), (1, (⟨#[97]⟩ : ByteArray), 0, 1)], by simp, by simp, by simp, ?_⟩
  intro c rest l' i o j ts hc ho hl hj hx
  have h2 : Lx (97 :: c :: rest) (i + 1 + 0) (⟨1, (⟨#[97]⟩ : ByteArray), 0, ((i + 1 + 0 : Nat) : Int)⟩ :: ts) 0 := by
    have h := next_name 97 [] (c :: rest) (by decide) rfl (blank_let hc)
    exact Lx.tok (97 :: c :: rest) (i + 1 + 0) 1 _ 0 0 1 o j l' ts 0 (by simp) h (by simp) (by simp) ho (by rw [← List.drop_drop]; exact hl) (by simp only [List.length_cons, List.length_nil] at hj; omega) hx
  exact Lx.tok (57 :: 97 :: c :: rest) i 2 _ 9 0 1 0 (i + 1 + 0) (97 :: c :: rest) _ 0 (by simp) (next_long 57 [] (97 :: c :: rest) 9 0 (by decide) rfl (fun d t e => by injection e with e1 _; subst e1; decide) (by decide +kernel)) (by simp) (by simp) (over_let 97 _ (by decide)) rfl rfl h2
end Go.Proofs.YtaiegjgbdfmfpaaDoor.Pure
