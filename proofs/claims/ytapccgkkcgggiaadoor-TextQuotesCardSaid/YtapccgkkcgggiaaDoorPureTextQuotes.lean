import Derived.Test.YtapccgkkcgggiaaDoorQuoteLibB2
import Derived.Test.YtapccgkkcgggiaaDoorKnownB
import Derived.Test.YtapccgkkcgggiaaDoorGB11
namespace Go.Proofs.YtapccgkkcgggiaaDoor.Pure
open Go.RowKit Go.Proofs.YtapccgkkcgggiaaDoor.GB Go.Proofs.YtapccgkkcgggiaaDoor.HandB Go.Proofs.YtapccgkkcgggiaaDoorW.PrintWords Go.Proofs.YtapccgkkcgggiaaDoorW.PrintLast
/-- Bytes as a text. -/
def mk (a : List UInt8) : ByteArray := ⟨a.toArray⟩
theorem mk_size (a : List UInt8) : (mk a).size = a.length := by show a.toArray.size = _; simp
theorem mk_data (a : List UInt8) : (mk a).data.toList = a := rfl
theorem mk_app (a b : List UInt8) : mk a ++ mk b = mk (a ++ b) := by
  apply ByteArray.ext
  apply Array.toList_inj.1
  rw [Go.Joins.data_append]
  rfl
theorem mk_of (s : ByteArray) (a : List UInt8) (h : s.data.toList = a) : s = mk a := by
  apply ByteArray.ext
  apply Array.toList_inj.1
  rw [h]
  rfl
theorem hex_cut : ∀ n : Fin 16, (⟨#[48, 49, 50, 51, 52, 53, 54, 55, 56, 57, 97, 98, 99, 100, 101, 102]⟩ : ByteArray).extract n.val (n.val + 1) = mk [hx n.val] := by decide +kernel
theorem hex_one (n : Nat) (h : n < 16) (k : Nat) : chancelref1_hex.f (k + 1) (n : Int) = some (mk [hx n]) := by
  rw [chancelref1_hex.f, if_neg (by omega), wrap_next n (by omega), if_pos (by omega), if_pos (by omega), if_pos (by omega), show ((n : Int)).toNat = n by omega, show (((n + 1 : Nat) : Int)).toNat = n + 1 by omega, hex_cut ⟨n, h⟩]
theorem hex_any (n : Nat) (h : n < 256) (k : Nat) : chancelref1_hex.f (k + 2) (n : Int) = some (mk (hexL n)) := by
  unfold hexL
  by_cases c : n < 16
  · rw [if_pos c]
    exact hex_one n c (k + 1)
  · rw [if_neg c, chancelref1_hex.f, if_pos (by omega), show Int.tdiv (n : Int) 16 = ((n / 16 : Nat) : Int) from rfl, show Int.tmod (n : Int) 16 = ((n % 16 : Nat) : Int) from rfl, show wrap64 ((n / 16 : Nat) : Int) = ((n / 16 : Nat) : Int) by unfold wrap64; omega,
      hex_one (n / 16) (by omega) k, hex_one (n % 16) (by omega) k, Option.bind_some, Option.bind_some, mk_size, mk_size, if_pos (by simp), mk_app]
    rfl
theorem one_byte (s : ByteArray) (pos : Nat) (c : UInt8) (t : List UInt8) (h : s.data.toList.drop pos = c :: t) : s.extract pos (pos + 1) = mk [c] := by
  refine mk_of _ _ ?_
  rw [Lib.extract_data, h, show pos + 1 - pos = 1 by omega]
  rfl
theorem refq_l0 (s : ByteArray) (hs : s.size ≤ 100000) : ∀ (d pos k : Nat) (a : List UInt8), s.size - pos = d → pos ≤ s.size → a.length ≤ 1 + 6 * pos → 2 * d + 20 < k →
    chancelref1_Quote.l0 k s (mk a) pos = some (mk (a ++ showBs (s.data.toList.drop pos) ++ [34])) := by
  intro d
  induction d with
  | zero =>
    intro pos k a h1 h2 h3 hk
    obtain ⟨k, rfl⟩ : ∃ m, k = m + 1 := ⟨k - 1, by omega⟩
    have hd : s.data.toList.drop pos = [] := List.drop_of_length_le (by rw [list_len]; omega)
    rw [chancelref1_Quote.l0, if_neg (by omega), mk_size, if_pos (by omega), show (⟨#[34]⟩ : ByteArray) = mk [34] from rfl, mk_app, hd, showBs, List.append_nil]
  | succ d ih =>
    intro pos k a h1 h2 h3 hk
    obtain ⟨k, rfl⟩ : ∃ m, k = m + 2 := ⟨k - 2, by omega⟩
    have hp : pos < s.size := by omega
    obtain ⟨c, t, hd⟩ : ∃ c t, s.data.toList.drop pos = c :: t := ⟨_, _, List.drop_eq_getElem_cons (by rw [list_len]; exact hp)⟩
    have hd2 : s.data.toList.drop (pos + 1) = t := by rw [← List.drop_drop, hd]; rfl
    have hb := bt_pos s pos 0 (by omega)
    rw [Nat.add_zero, hd, at_zero] at hb
    have hlt := c.toNat_lt
    have hx : s.extract ((pos : Int)).toNat (wrap64 ((pos : Int) + 1)).toNat = mk [c] := by
      rw [wrap_next pos (by omega), show ((pos : Int)).toNat = pos by omega, show (((pos + 1 : Nat) : Int)).toNat = pos + 1 by omega]
      exact one_byte s pos c t hd
    have go : ∀ b : List UInt8, b = showB c → chancelref1_Quote.l0 k s (mk (a ++ b)) (wrap64 ((pos : Int) + 1)) = some (mk (a ++ showBs (s.data.toList.drop pos) ++ [34])) := by
      intro b hb
      have hlen := showB_len c
      subst hb
      rw [wrap_next pos (by omega), ih (pos + 1) k (a ++ showB c) (by omega) (by omega) (by rw [List.length_append]; omega) (by omega), hd, hd2, showBs, List.append_assoc, List.append_assoc, List.append_assoc, List.append_assoc]
    have e92 : (c = 92) ↔ c.toNat = 92 := by rw [← UInt8.toNat_inj]; rfl
    have e34 : (c = 34) ↔ c.toNat = 34 := by rw [← UInt8.toNat_inj]; rfl
    have e10 : (c = 10) ↔ c.toNat = 10 := by rw [← UInt8.toNat_inj]; rfl
    have e9 : (c = 9) ↔ c.toNat = 9 := by rw [← UInt8.toNat_inj]; rfl
    have e127 : (c = 127) ↔ c.toNat = 127 := by rw [← UInt8.toNat_inj]; rfl
    rw [chancelref1_Quote.l0, if_pos (by omega), if_pos (by omega), hb]
    by_cases c1 : c = 92 ∨ c = 34
    · have c1p : c.toNat = 92 ∨ c.toNat = 34 := c1.imp e92.1 e34.1
      have e : (if (c.toNat : Int) = 92 then chancelref1_Quote.j1 (k + 1) s (mk a) pos c.toNat true else chancelref1_Quote.j1 (k + 1) s (mk a) pos c.toNat ((c.toNat : Int) == 34)) = chancelref1_Quote.j1 (k + 1) s (mk a) pos c.toNat true := by
        split
        · rfl
        · rw [show ((c.toNat : Int) == 34) = true by rw [beq_iff_eq]; omega]
      rw [e, chancelref1_Quote.j1, if_pos rfl, mk_size, if_pos (by omega), if_pos (by omega), if_pos (by rw [wrap_next pos (by omega)]; omega), if_pos (by rw [wrap_next pos (by omega)]; omega), hx, show (⟨#[92]⟩ : ByteArray) = mk [92] from rfl, mk_app, mk_size, mk_size, if_pos (by simp; omega), mk_app, List.append_assoc]
      exact go _ (by unfold showB; rw [if_pos c1]; rfl)
    have c1n : c.toNat ≠ 92 ∧ c.toNat ≠ 34 := ⟨fun h => c1 (.inl (e92.2 h)), fun h => c1 (.inr (e34.2 h))⟩
    have e : (if (c.toNat : Int) = 92 then chancelref1_Quote.j1 (k + 1) s (mk a) pos c.toNat true else chancelref1_Quote.j1 (k + 1) s (mk a) pos c.toNat ((c.toNat : Int) == 34)) = chancelref1_Quote.j1 (k + 1) s (mk a) pos c.toNat false := by
      rw [if_neg (by omega), show ((c.toNat : Int) == 34) = false by rw [beq_eq_false_iff_ne]; omega]
    rw [e, chancelref1_Quote.j1, if_neg (by decide)]
    by_cases c2 : c = 10
    · have c2p := e10.1 c2
      rw [if_pos (by omega), mk_size, if_pos (by omega), show (⟨#[92, 110]⟩ : ByteArray) = mk [92, 110] from rfl, mk_app]
      exact go _ (by unfold showB; rw [if_neg c1, if_pos c2])
    have c2n : c.toNat ≠ 10 := fun h => c2 (e10.2 h)
    rw [if_neg (by omega)]
    by_cases c3 : c = 9
    · have c3p := e9.1 c3
      rw [if_pos (by omega), mk_size, if_pos (by omega), show (⟨#[92, 116]⟩ : ByteArray) = mk [92, 116] from rfl, mk_app]
      exact go _ (by unfold showB; rw [if_neg c1, if_neg c2, if_pos c3])
    have c3n : c.toNat ≠ 9 := fun h => c3 (e9.2 h)
    rw [if_neg (by omega)]
    have hex : ∀ (h : c.toNat < 32 ∨ c = 127), (if (mk a).size + 3 ≤ 9223372036854775807 then ((chancelref1_hex.f k (wrap64 (c.toNat : Int))).bind fun t239 => (if (mk a ++ (⟨#[92, 117, 123]⟩ : ByteArray)).size + t239.size ≤ 9223372036854775807 then (if ((mk a ++ (⟨#[92, 117, 123]⟩ : ByteArray)) ++ t239).size + 1 ≤ 9223372036854775807 then (chancelref1_Quote.l0 k s (((mk a ++ (⟨#[92, 117, 123]⟩ : ByteArray)) ++ t239) ++ (⟨#[125]⟩ : ByteArray)) (wrap64 ((pos : Int) + 1))) else (none)) else (none))) else (none)) = some (mk (a ++ showBs (s.data.toList.drop pos) ++ [34])) := by
      intro h
      obtain ⟨k2, hk2⟩ : ∃ m, k = m + 2 := ⟨k - 2, by omega⟩
      have hh : chancelref1_hex.f k (c.toNat : Int) = some (mk (hexL c.toNat)) := by rw [hk2]; exact hex_any c.toNat hlt k2
      have hlen : (hexL c.toNat).length ≤ 2 := by unfold hexL; split <;> simp
      rw [mk_size, if_pos (by omega), show wrap64 (c.toNat : Int) = (c.toNat : Int) by unfold wrap64; omega, hh, Option.bind_some, show (⟨#[92, 117, 123]⟩ : ByteArray) = mk [92, 117, 123] from rfl, show (⟨#[125]⟩ : ByteArray) = mk [125] from rfl, mk_app, mk_app, mk_app, mk_size, mk_size, mk_size,
        if_pos (by simp; omega), if_pos (by simp; omega), List.append_assoc, List.append_assoc]
      exact go _ (by unfold showB; rw [if_neg c1, if_neg c2, if_neg c3, if_pos h, List.append_assoc])
    by_cases c4 : c.toNat < 32
    · rw [if_pos (by omega)]
      exact hex (.inl c4)
    rw [if_neg (by omega)]
    by_cases c5 : c = 127
    · have c5p := e127.1 c5
      rw [if_pos (by omega)]
      exact hex (.inr c5)
    have c5n : c.toNat ≠ 127 := fun h => c5 (e127.2 h)
    rw [if_neg (by omega), if_pos (by omega), if_pos (by rw [wrap_next pos (by omega)]; omega), if_pos (by rw [wrap_next pos (by omega)]; omega), hx, mk_size, mk_size, if_pos (by simp; omega), mk_app]
    exact go _ (by unfold showB; rw [if_neg c1, if_neg c2, if_neg c3, if_neg (by rintro (h | h); exact c4 h; exact c5 h)])
theorem refq_txt (rs : List Int) (hr : ∀ r ∈ rs, isR r) (hl : rs.length ≤ 1000) (k : Nat) (hk : 20000 ≤ k) : chancelref1_Quote.f k (txt rs) = some (qtd rs) := by
  have z := encA_len rs
  have hsz := txt_size rs
  unfold chancelref1_Quote.f
  have h := refq_l0 (txt rs) (by omega) (txt rs).size 0 k [34] (by omega) (by omega) (by simp) (by omega)
  rw [show ((0 : Nat) : Int) = 0 from rfl, List.drop_zero, show (txt rs).data.toList = encA rs from rfl, showBs_encA rs hr] at h
  exact h
theorem TextQuotes : chancellaw1_TextQuotes.Pure := by
  intro l0 a1 _ _ _ _
  suffices hs : ∀ n : Nat, 4000000 ≤ n → chancellaw1_TextQuotes.f n l0 a1 = some true from ⟨4000000, hs 4000000 (by omega)⟩
  intro n hn
  unfold chancellaw1_TextQuotes.f
  rw [known_true _ (by omega), Option.bind_some, if_pos rfl]
  by_cases c : (a1.size : Int) > 300
  · rw [if_pos c]
  obtain ⟨a, g1, g2, g3⟩ := law_of l0
  have ha : ∀ r ∈ a, isR r := fun r hr => (some22_good r (g2 r hr)).1
  have hq := qtd_size a
  have hl := shows_len a ha
  rw [if_neg c, g3 n (by omega), Option.bind_some, quote_txt a ha (by omega), Option.bind_some, if_pos (by omega), text_read_eq _ (by rw [ByteArray.size_append]; omega) n (by rw [ByteArray.size_append]; omega), Option.bind_some,
    Go.Joins.data_append, qtd_data, read_quoted a ha, refq_txt a ha (by omega) n (by omega), Option.bind_some, if_pos rfl, if_pos rfl, if_pos rfl, hq]
  simp
end Go.Proofs.YtapccgkkcgggiaaDoor.Pure
