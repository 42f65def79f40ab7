import Derived.Test.YtapccgkkcgggiaaDoorTextLibB3
namespace Go.Proofs.YtapccgkkcgggiaaDoor.Pure
open Go.RowKit Go.Proofs.YtapccgkkcgggiaaDoor.GB Go.Proofs.YtapccgkkcgggiaaDoor.HandB Go.Proofs.YtapccgkkcgggiaaDoorW.PrintWords Go.Proofs.YtapccgkkcgggiaaDoorW.PrintLast
/-! ### quoted texts -/
theorem encode_nat (n : Nat) (h : Utf8.valid (n : Int) = true) : (Utf8.encode (n : Int)).data.toList =
    if n < 128 then [UInt8.ofNat n] else if n < 2048 then [UInt8.ofNat (192 + n / 64), UInt8.ofNat (128 + n % 64)] else if n < 65536 then [UInt8.ofNat (224 + n / 4096), UInt8.ofNat (128 + n / 64 % 64), UInt8.ofNat (128 + n % 64)]
    else [UInt8.ofNat (240 + n / 262144), UInt8.ofNat (128 + n / 4096 % 64), UInt8.ofNat (128 + n / 64 % 64), UInt8.ofNat (128 + n % 64)] := by
  have e : (if Utf8.valid (n : Int) then (n : Int).toNat else Utf8.runeError) = n := by rw [if_pos h]; omega
  unfold Utf8.encode
  simp only [e]
  split
  · rfl
  split
  · rfl
  split <;> rfl
theorem encode_eq (r : Int) (h : isR r) : (Utf8.encode r).data.toList = encB r := by
  have hv : Utf8.valid r = true := by
    unfold Utf8.valid
    obtain ⟨h0, h1, h2⟩ := h
    simp
    omega
  obtain ⟨h0, h1, h2⟩ := h
  obtain ⟨n, rfl⟩ : ∃ n : Nat, r = n := ⟨r.toNat, by omega⟩
  rw [encode_nat n hv]
  by_cases c1 : n < 128
  · rw [if_pos c1, encB_one (by omega), show ((n : Int)).toNat = n by omega]
  rw [if_neg c1]
  by_cases c2 : n < 2048
  · rw [if_pos c2, encB_two (by omega) (by omega), show (192 + (n : Int) / 64).toNat = 192 + n / 64 by omega, show (128 + (n : Int) % 64).toNat = 128 + n % 64 by omega]
  rw [if_neg c2]
  by_cases c3 : n < 65536
  · rw [if_pos c3, encB_three (by omega) (by omega) (by omega), show (224 + (n : Int) / 4096).toNat = 224 + n / 4096 by omega, show (128 + (n : Int) / 64 % 64).toNat = 128 + n / 64 % 64 by omega, show (128 + (n : Int) % 64).toNat = 128 + n % 64 by omega]
  · rw [if_neg c3, encB_four (by omega) (by omega) (by omega), show (240 + (n : Int) / 262144).toNat = 240 + n / 262144 by omega, show (128 + (n : Int) / 4096 % 64).toNat = 128 + n / 4096 % 64 by omega, show (128 + (n : Int) / 64 % 64).toNat = 128 + n / 64 % 64 by omega, show (128 + (n : Int) % 64).toNat = 128 + n % 64 by omega]
/-- Runes as they are quoted. -/
def showsL : List Int → List UInt8
  | [] => []
  | r :: l => shownL r ++ showsL l
theorem shows_app : ∀ a b, showsL (a ++ b) = showsL a ++ showsL b
  | [], _ => rfl
  | r :: l, b => by simp only [List.cons_append, showsL, shows_app l b, List.append_assoc]
theorem shown_len (r : Int) (h : isR r) : (shownL r).length ≤ 6 := by
  unfold shownL
  split
  · simp
  split
  · simp
  split
  · simp
  split
  · simp
  split
  · unfold hexL
    split <;> simp
  · rw [encode_eq r h]
    have := encB_pos r
    omega
theorem shows_len : ∀ rs : List Int, (∀ r ∈ rs, isR r) → (showsL rs).length ≤ 6 * rs.length
  | [], _ => by simp [showsL]
  | r :: rs, h => by
    have h1 := shown_len r (h r (by simp))
    have h2 := shows_len rs (fun x hx => h x (by simp [hx]))
    simp only [showsL, List.length_append, List.length_cons]
    omega
theorem quote_enc (s : ByteArray) : ∀ (rs : List Int) (pos fuel : Nat), (∀ r ∈ rs, isR r) → s.data.toList.drop pos = encA rs → (encA rs).length ≤ fuel → quoteFrom s fuel pos = showsL rs
  | [], pos, fuel, _, hd, _ => by
    refine quoteFrom_end s fuel pos ?_
    have := congrArg List.length hd
    rw [List.length_drop, Array.length_toList] at this
    simp only [encA, List.length_nil] at this
    show ¬ pos < s.data.size
    omega
  | r :: rs, pos, fuel, hr, hd, hf => by
    have hp := encB_pos r
    simp only [encA, List.length_append] at hf
    obtain ⟨f, rfl⟩ : ∃ f, fuel = f + 1 := ⟨fuel - 1, by omega⟩
    have hlt : pos < s.size := by
      have := congrArg List.length hd
      rw [List.length_drop, Array.length_toList] at this
      simp only [encA, List.length_append] at this
      show pos < s.data.size
      omega
    have hdec : Utf8.decode s pos = (r.toNat, (encB r).length) := by
      rw [decode_drop, hd]
      exact dec_enc r (hr r (by simp)) _
    simp only [quoteFrom]
    rw [if_pos hlt, hdec]
    have h0 := (hr r (by simp)).1
    rw [show ((r.toNat : Nat) : Int) = r by omega, showsL]
    congr 1
    refine quote_enc s rs (pos + (encB r).length) f (fun x hx => hr x (by simp [hx])) ?_ (by omega)
    rw [← List.drop_drop, hd, encA, List.drop_left]
/-- A text of runes, quoted. -/
def qtd (rs : List Int) : ByteArray := ⟨(34 :: (showsL rs ++ [34])).toArray⟩
theorem qtd_data (rs : List Int) : (qtd rs).data.toList = 34 :: (showsL rs ++ [34]) := rfl
theorem qtd_size (rs : List Int) : (qtd rs).size = (showsL rs).length + 2 := by show (34 :: (showsL rs ++ [34])).toArray.size = _; simp
theorem quote_txt (rs : List Int) (hr : ∀ r ∈ rs, isR r) (hl : rs.length < 4000000) : text_Quote.f (txt rs) = some (qtd rs) := by
  unfold text_Quote.f qtd
  have := encA_len rs
  rw [txt_size, if_pos (by omega), quote_enc (txt rs) rs 0 _ hr rfl (Nat.le_refl _)]
end Go.Proofs.YtapccgkkcgggiaaDoor.Pure
