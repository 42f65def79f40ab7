import Derived.Test.YtaiegjgbdfmfpaaDoorLexLib
import Derived.Test.YtaiegjgbdfmfpaaDoorGL5
/-! Signs, the next token, all tokens, on rows of bytes. -/
namespace Go.Proofs.YtaiegjgbdfmfpaaDoor.Pure
open Go.RowKit Go.Proofs.YtaiegjgbdfmfpaaDoor.GL Go.Proofs.YtaiegjgbdfmfpaaDoor.HandL Go.Proofs.YtaiegjgbdfmfpaaDoorW.PrintWords Go.Proofs.YtaiegjgbdfmfpaaDoorW.PrintLast
abbrev Six : Type := Int × ByteArray × Int × Int × Int × Int
def eight : List ByteArray := [⟨#[58, 58]⟩, ⟨#[61, 61]⟩, ⟨#[33, 61]⟩, ⟨#[60, 61]⟩, ⟨#[62, 61]⟩, ⟨#[38, 38]⟩, ⟨#[124, 124]⟩, ⟨#[45, 62]⟩]
theorem fields_eight : strings_Fields.f (⟨#[58, 58, 32, 61, 61, 32, 33, 61, 32, 60, 61, 32, 62, 61, 32, 38, 38, 32, 124, 124, 32, 45, 62]⟩ : ByteArray) = some eight := by
  unfold strings_Fields.f
  rw [if_pos (by decide +kernel)]
  rfl
def isSingle (c : UInt8) : Bool := decide (c ∈ ([40, 41, 123, 125, 91, 93, 44, 59, 58, 46, 60, 62, 33, 43, 45, 42] : List UInt8))
theorem single_eq (c : UInt8) : decide (0 ≤ Lib.indexByte [40, 41, 123, 125, 91, 93, 44, 59, 58, 46, 60, 62, 33, 43, 45, 42] c) = isSingle c := by
  have h : ∀ x : Fin 256, decide (0 ≤ Lib.indexByte [40, 41, 123, 125, 91, 93, 44, 59, 58, 46, 60, 62, 33, 43, 45, 42] (UInt8.ofNat x.val)) = isSingle (UInt8.ofNat x.val) := by decide +kernel
  have := h ⟨c.toNat, c.toNat_lt⟩
  simpa using this
/-- What the signs come to, from a pair on. -/
def signL (l : List UInt8) : List ByteArray → Six
  | [] => match l with
    | [] => (0, (⟨#[]⟩ : ByteArray), 0, 0, 0, 12)
    | c :: _ => if isSingle c then (4, (⟨#[c]⟩ : ByteArray), 0, 0, 1, 0) else (0, (⟨#[]⟩ : ByteArray), 0, 0, 0, 12)
  | p :: ps => if l.take p.data.toList.length == p.data.toList then (4, p, 0, 0, (p.size : Int), 0) else signL l ps
theorem sign_l0 (s : ByteArray) (hs : s.size ≤ 1000000) (h0 : 1 ≤ s.size) (ps : List ByteArray) (hps : ps.length ≤ 100) (hpz : ∀ p ∈ ps, p.size ≤ 1000000) (d : Nat) : ∀ (i k : Nat), ps.length - i = d → i ≤ ps.length → d < k →
    lex_sign.l0 k s ps (ps.length : Int) (i : Int) = some (signL s.data.toList (ps.drop i)) := by
  have hl := lx_len s
  induction d with
  | zero =>
    intro i k h1 h2 h3
    obtain ⟨k, rfl⟩ : ∃ m, k = m + 1 := ⟨k - 1, by omega⟩
    obtain rfl : i = ps.length := by omega
    rw [List.drop_length]
    obtain ⟨c, t, e⟩ : ∃ c t, s.data.toList = c :: t := by
      cases e : s.data.toList with
      | nil => rw [e] at hl; simp at hl; omega
      | cons c t => exact ⟨c, t, rfl⟩
    have ht : (s.extract 0 1).data.toList = [c] := by rw [lx_take, e]; rfl
    have hz : (s.extract 0 1).size = 1 := by rw [← lx_len, ht]; rfl
    have hx : s.extract 0 1 = (⟨#[c]⟩ : ByteArray) := by
      apply ByteArray.ext
      apply Array.toList_inj.1
      rw [ht]
    simp only [lex_sign.l0]
    rw [if_neg (by omega), if_pos (by omega), if_pos (by omega), strings_Contains.f, if_pos hz, ht, Option.bind_some,
      show (decide (0 ≤ Lib.indexByte (⟨#[40, 41, 123, 125, 91, 93, 44, 59, 58, 46, 60, 62, 33, 43, 45, 42]⟩ : ByteArray).data.toList ([c].getD 0 0))) = decide (0 ≤ Lib.indexByte [40, 41, 123, 125, 91, 93, 44, 59, 58, 46, 60, 62, 33, 43, 45, 42] c) from rfl, single_eq, e, hx]
    show _ = some (if isSingle c then _ else _)
    split <;> rfl
  | succ d ih =>
    intro i k h1 h2 h3
    obtain ⟨k, rfl⟩ : ∃ m, k = m + 1 := ⟨k - 1, by omega⟩
    have hi : i < ps.length := by omega
    have hr : rdOf ByteArray.empty ps (i : Int) = ps[i]'hi := by unfold rdOf; rw [Int.toNat_natCast, List.getD_eq_getElem?_getD, List.getElem?_eq_getElem hi]; rfl
    simp only [lex_sign.l0]
    rw [if_pos (by omega), if_pos (by omega), if_pos (by omega), hr, lx_prefix _ _ (hpz _ (List.getElem_mem hi)), Option.bind_some, List.drop_eq_getElem_cons hi]
    show _ = some (if _ then _ else _)
    split
    · rfl
    · rw [lx_next i (by omega), ih (i + 1) k (by omega) (by omega) (by omega)]
theorem sign_eq (s : ByteArray) (hs : s.size ≤ 1000000) (h0 : 1 ≤ s.size) (k : Nat) (hk : 10 ≤ k) : lex_sign.f k s = some (signL s.data.toList eight) := by
  unfold lex_sign.f
  rw [fields_eight, Option.bind_some]
  exact sign_l0 s hs h0 eight (by decide) (by decide) 8 0 k rfl (by decide) (by omega)
theorem signL_none (l : List UInt8) : ∀ ps : List ByteArray, (∀ p ∈ ps, (l.take p.data.toList.length == p.data.toList) = false) → signL l ps = signL l []
  | [], _ => rfl
  | p :: ps, h => by
    rw [signL, h p List.mem_cons_self, if_neg (by decide)]
    exact signL_none l ps fun q hq => h q (List.mem_cons_of_mem _ hq)
theorem sign_one (c : UInt8) (r : List UInt8) (hc : isSingle c = true) (hr : ∀ d t, r = d :: t → d ∉ ([58, 61, 38, 124, 62] : List UInt8)) : signL (c :: r) eight = (4, (⟨#[c]⟩ : ByteArray), 0, 0, 1, 0) := by
  rw [signL_none]
  · show (if isSingle c then _ else _) = _
    rw [if_pos hc]
  · intro p hp
    have h2 : ∀ p ∈ eight, p.data.toList.length = 2 ∧ p.data.toList.getD 1 0 ∈ ([58, 61, 38, 124, 62] : List UInt8) := by decide
    obtain ⟨e2, e3⟩ := h2 p hp
    rw [beq_eq_false_iff_ne]
    intro e
    rw [e2] at e
    cases r with
    | nil =>
      have := congrArg List.length e
      rw [e2] at this
      simp at this
    | cons d t =>
      rw [← e] at e3
      exact hr d t rfl e3
/-- What stands next on a row of bytes. -/
def Next (l : List UInt8) (x : Six) : Prop := ∀ k, 1000000 ≤ k → ∀ s : ByteArray, s.data.toList = l → s.size ≤ 100000 → lex_next.f k s = some x
theorem head_bt {s : ByteArray} {c : UInt8} {l : List UInt8} (e : s.data.toList = c :: l) : bt s 0 = ((c.toNat : Nat) : Int) ∧ 0 < s.size := by
  have hl := lx_len s
  rw [e, List.length_cons] at hl
  have h0 : 0 < s.size := by omega
  refine ⟨?_, h0⟩
  unfold bt
  rw [dif_pos (show (0 : Int).toNat < s.size from h0)]
  have : s[0]'h0 = c := by
    show s.data[0] = c
    have h1 : s.data.toList[0]'(by rw [e]; simp) = c := by simp [e]
    simpa using h1
  show (((s[0]'h0).toNat : Nat) : Int) = _
  rw [this]
theorem next_name (c : UInt8) (w r : List UInt8) (hc : isLet c = true) (hw : (w.all fun c => isLet c || isFig c) = true) (hr : ∀ c t, r = c :: t → (isLet c || isFig c) = false) :
    Next (c :: w ++ r) (if 12 < w.length + 1 then (0, (⟨#[]⟩ : ByteArray), 0, 0, 0, 5) else (1, (⟨(c :: w).toArray⟩ : ByteArray), 0, 0, ((w.length + 1 : Nat) : Int), 0)) := by
  intro k hk s e hs
  obtain ⟨hb, h0⟩ := head_bt (l := w ++ r) e
  unfold lex_next.f
  rw [if_pos (by omega), hb, lex_name.letter, Option.bind_some, if_pos hc, name_eq s (by omega) (c :: w) r e (by rw [List.all_cons, hc, hw]; rfl) hr, List.length_cons]
  split <;> rfl
theorem fig_not_let (c : UInt8) (h : isFig c = true) : isLet c = false := by
  unfold isFig at h
  rw [Bool.and_eq_true, decide_eq_true_eq, decide_eq_true_eq] at h
  unfold isLet
  rw [decide_eq_false (show ¬ 97 ≤ c.toNat by omega), decide_eq_false (show ¬ 65 ≤ c.toNat by omega), decide_eq_false (show ¬ c.toNat = 95 by omega)]
  rfl
theorem next_long (c : UInt8) (w r : List UInt8) (x e : Int) (hc : isFig c = true) (hw : w.all isFig = true) (hr : ∀ c t, r = c :: t → isFig c = false) (hp : num_Parse.f (⟨(c :: w).toArray⟩ : ByteArray) = some (x, e)) :
    Next (c :: w ++ r) (2, (⟨#[]⟩ : ByteArray), x, 0, ((w.length + 1 : Nat) : Int), e) := by
  intro k hk s he hs
  obtain ⟨hb, h0⟩ := head_bt (l := w ++ r) he
  unfold lex_next.f
  rw [if_pos (by omega), hb, lex_name.letter, Option.bind_some, if_neg (by rw [fig_not_let c hc]; decide), digit_eq, Option.bind_some, if_pos hc, long_eq s (by omega) (c :: w) r he (by rw [List.all_cons, hc, hw]; rfl) hr, hp, Option.bind_some, Option.bind_some, List.length_cons]
theorem next_sign (c : UInt8) (r : List UInt8) (x : Six) (hc : isLet c = false) (hf : isFig c = false) (hq : c ≠ 34) (hx : signL (c :: r) eight = x) : Next (c :: r) x := by
  intro k hk s he hs
  obtain ⟨hb, h0⟩ := head_bt he
  unfold lex_next.f
  rw [if_pos (by omega), hb, lex_name.letter, Option.bind_some, if_neg (by rw [hc]; decide), digit_eq, Option.bind_some, if_neg (by rw [hf]; decide), if_neg (by
    intro e
    apply hq
    apply UInt8.toNat_inj.1
    have : (34 : UInt8).toNat = 34 := rfl
    omega), sign_eq s (by omega) (by omega) k (by omega), Option.bind_some, he, hx]
/-- The tokens of a row of bytes that stands at a place (no blank ahead), and the error that ends them. -/
inductive Lx : List UInt8 → Nat → List S35 → Int → Prop
  | nil (i : Nat) : Lx [] i [] 0
  | err (l : List UInt8) (i : Nat) (x : Six) (e : Int) : l ≠ [] → Next l x → x.2.2.2.2.2 = e → e ≠ 0 → Lx l i [] e
  | tok (l : List UInt8) (i : Nat) (kd : Int) (t : ByteArray) (v z : Int) (n o j : Nat) (l' : List UInt8) (ts : List S35) (e : Int) : l ≠ [] → Next l (kd, t, v, z, (n : Int), 0) → 1 ≤ n → n ≤ l.length → Over (l.drop n) o → l.drop (n + o) = l' → i + n + o = j → Lx l' j ts e → Lx l i (⟨kd, t, v, (i : Int)⟩ :: ts) e
theorem lx_step (s : ByteArray) (hs : s.size ≤ 600) (i n o k : Nat) (kd v z : Int) (t : ByteArray) (out : List S35) (h1 : i < s.size) (h2 : i + n ≤ s.size) (h3 : out.length < 200) (h4 : o ≤ s.size)
    (hx : lex_next.f k (s.extract i s.size) = some (kd, t, v, z, (n : Int), 0)) (ho : lex_over.f k (s.extract (i + n) s.size) = some (o : Int)) :
    lex_Tokens.l0 (k + 1) s out (i : Int) = lex_Tokens.l0 k s (out ++ [⟨kd, t, v, (i : Int)⟩]) ((i + n + o : Nat) : Int) := by
  have hw : wrap64 ((i : Int) + (n : Int)) = ((i + n : Nat) : Int) := by unfold wrap64; omega
  have hw2 : wrap64 (((i + n : Nat) : Int) + (o : Int)) = ((i + n + o : Nat) : Int) := by unfold wrap64; omega
  rw [lex_Tokens.l0, if_pos (by omega), if_pos (by omega), if_pos (by omega), Int.toNat_natCast, hx, Option.bind_some]
  show (if (0 : Int) = 0 then (if (out.length : Int) ≥ 200 then (some (([] : List (S35)), 4)) else (if out.length < 3518437208883 then (if 0 ≤ (wrap64 ((i : Int) + (n : Int))) then (if (wrap64 ((i : Int) + (n : Int))) ≤ (s.size : Int) then ((lex_over.f k (s.extract ((wrap64 ((i : Int) + (n : Int))) : Int).toNat s.size)).bind fun t182 => (lex_Tokens.l0 k s (out ++ [(⟨kd, t, v, (i : Int)⟩ : S35)]) (wrap64 ((wrap64 ((i : Int) + (n : Int))) + t182)))) else (none)) else (none)) else (none))) else (some (([] : List (S35)), (0 : Int)))) = _
  rw [if_pos rfl, if_neg (by omega), if_pos (by omega), hw, if_pos (by omega), if_pos (by omega), Int.toNat_natCast, ho, Option.bind_some, hw2]
theorem lx_many (s : ByteArray) (i k : Nat) (x : Six) (out : List S35) (h1 : i < s.size) (h3 : out.length ≥ 200) (hx : lex_next.f k (s.extract i s.size) = some x) (h0 : x.2.2.2.2.2 = 0) :
    lex_Tokens.l0 (k + 1) s out (i : Int) = some ([], 4) := by
  rw [lex_Tokens.l0, if_pos (by omega), if_pos (by omega), if_pos (by omega), Int.toNat_natCast, hx, Option.bind_some, if_pos h0, if_pos (by omega)]
theorem lx_run (s : ByteArray) (hs : s.size ≤ 600) : ∀ (l : List UInt8) (i : Nat) (ts : List S35) (e : Int), Lx l i ts e → ∀ (out : List S35) (k : Nat), s.data.toList.drop i = l → i ≤ s.size → out.length ≤ 200 → 1000000 + l.length < k →
    lex_Tokens.l0 k s out (i : Int) = some (if 200 < out.length + ts.length then ([], 4) else if e = 0 then (out ++ ts, 0) else ([], e)) := by
  intro l i ts e H
  have hl := lx_len s
  induction H with
  | nil i =>
    intro out k h hi ho hk
    obtain ⟨k, rfl⟩ : ∃ m, k = m + 1 := ⟨k - 1, by omega⟩
    have := congrArg List.length h
    rw [List.length_drop] at this
    have e0 : ([] : List UInt8).length = 0 := rfl
    have e1 : ([] : List S35).length = 0 := rfl
    rw [lex_Tokens.l0]
    rw [if_neg (by omega), if_neg (by omega), if_pos rfl, List.append_nil]
  | err l i x e hn hx he h0 =>
    intro out k h hi ho hk
    obtain ⟨k, rfl⟩ : ∃ m, k = m + 1 := ⟨k - 1, by omega⟩
    obtain ⟨c, t, rfl⟩ : ∃ c t, l = c :: t := by cases l with | nil => exact absurd rfl hn | cons c t => exact ⟨c, t, rfl⟩
    obtain ⟨hlt, h1, h2⟩ := drop_lt h
    have e1 : ([] : List S35).length = 0 := rfl
    have hz : (s.extract i s.size).size ≤ 100000 := by rw [← lx_len, lx_ext, List.length_drop]; omega
    rw [lex_Tokens.l0]
    rw [if_pos (by omega), if_pos (by omega), if_pos (by omega), Int.toNat_natCast, hx k (by omega) _ (by rw [lx_ext, h]) hz, Option.bind_some, he, if_neg h0, if_neg (by omega), if_neg h0]
  | tok l i kd t v z n o j l' ts e hn hx hn1 hn2 hov hl' hj hrest ih =>
    intro out k h hi ho hk
    obtain ⟨k, rfl⟩ : ∃ m, k = m + 1 := ⟨k - 1, by omega⟩
    have hlen := congrArg List.length h
    rw [List.length_drop, hl] at hlen
    have hz : (s.extract i s.size).size ≤ 100000 := by rw [← lx_len, lx_ext, List.length_drop]; omega
    have hol := over_len hov
    rw [List.length_drop] at hol
    have hnx := hx k (by omega) _ (by rw [lx_ext, h]) hz
    rw [List.length_cons]
    by_cases h200 : out.length ≥ 200
    · rw [lx_many s i k _ out (by omega) h200 hnx rfl, if_pos (by omega)]
    · have hx2 : (s.extract (i + n) s.size).data.toList = l.drop n := by rw [lx_ext, ← List.drop_drop, h]
      have hz2 : (s.extract (i + n) s.size).size ≤ 600 := by rw [← lx_len, lx_ext, List.length_drop]; omega
      have hz3 : (s.extract (i + n) s.size).size < k := by omega
      rw [lx_step s hs i n o k kd v z t out (by omega) (by omega) (by omega) (by omega) hnx (over_eq _ (by omega) (by rw [hx2]; exact hov) k hz3), hj,
        ih (out ++ [(⟨kd, t, v, (i : Int)⟩ : S35)]) k (by rw [← hl', ← hj, ← h, List.drop_drop, Nat.add_assoc]) (by omega) (by rw [List.length_append, List.length_singleton]; omega) (by
        rw [← hl', List.length_drop]; omega), List.length_append, List.length_singleton, List.append_assoc,
        show out.length + 1 + ts.length = out.length + (ts.length + 1) by omega, List.singleton_append]
theorem tokens_eq (s : ByteArray) (hs : s.size ≤ 600) (hc : text_Check.f s = some 0) {o : Nat} {ts : List S35} {e : Int} (ho : Over s.data.toList o) (h : Lx (s.data.toList.drop o) o ts e) (k : Nat) (hk : 2000000 ≤ k) :
    lex_Tokens.f k s = some (if 200 < ts.length then ([], 4) else if e = 0 then (ts, 0) else ([], e)) := by
  have hl := lx_len s
  have hol := over_len ho
  unfold lex_Tokens.f
  rw [if_neg (by omega), hc, Option.bind_some, if_pos rfl, over_eq s (by omega) ho k (by omega), Option.bind_some, lx_run s hs _ _ _ _ h [] k rfl (by omega) (Nat.zero_le _) (by rw [List.length_drop]; omega)]
  rw [List.length_nil, Nat.zero_add, List.nil_append]
theorem lit_data (l : List UInt8) : (⟨l.toArray⟩ : ByteArray).data.toList = l := rfl
theorem lit_size (l : List UInt8) : (⟨l.toArray⟩ : ByteArray).size = l.length := by simp [ByteArray.size]
end Go.Proofs.YtaiegjgbdfmfpaaDoor.Pure
