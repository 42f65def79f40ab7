import Derived.Test.YtapccgkkcgggiaaDoorGB1
import Derived.Test.YtapccgkkcgggiaaDoorGB5
import Derived.Laws.Bits64b
import Derived.Lib.SmallJoins
namespace Go.Proofs.YtapccgkkcgggiaaDoor.Pure
open Go.RowKit Go.Proofs.YtapccgkkcgggiaaDoor.GB Go.Proofs.YtapccgkkcgggiaaDoor.HandB Go.Proofs.YtapccgkkcgggiaaDoorW.PrintWords Go.Proofs.YtapccgkkcgggiaaDoorW.PrintLast
/-! ### masks -/
theorem and192 : ∀ x : Fin 256, (Go.bits .and .u8 ((x.val : Nat) : Int) 192 = 128) ↔ x.val / 64 = 2 := by decide +kernel
theorem and63 : ∀ x : Fin 256, Go.bits .and .u8 ((x.val : Nat) : Int) 63 = ((x.val % 64 : Nat) : Int) := by decide +kernel
theorem and31 : ∀ x : Fin 256, Go.bits .and .u8 ((x.val : Nat) : Int) 31 = ((x.val % 32 : Nat) : Int) := by decide +kernel
theorem and15 : ∀ x : Fin 256, Go.bits .and .u8 ((x.val : Nat) : Int) 15 = ((x.val % 16 : Nat) : Int) := by decide +kernel
theorem and7 : ∀ x : Fin 256, Go.bits .and .u8 ((x.val : Nat) : Int) 7 = ((x.val % 8 : Nat) : Int) := by decide +kernel
theorem or_i32 (a b : Nat) (ha : a < 2147483648) (hb : b < 2147483648) : Go.bits .or .i32 (a : Int) (b : Int) = ((a ||| b : Nat) : Int) := by
  have hx : a ||| b < 2 ^ 31 := Nat.or_lt_two_pow (by omega) (by omega)
  have h1 : (BitVec.ofInt 32 (a : Int)).toNat = a := by
    rw [BitVec.ofInt_natCast, BitVec.toNat_ofNat]; exact Nat.mod_eq_of_lt (by omega)
  have h2 : (BitVec.ofInt 32 (b : Int)).toNat = b := by
    rw [BitVec.ofInt_natCast, BitVec.toNat_ofNat]; exact Nat.mod_eq_of_lt (by omega)
  show IntKind.i32.wrap ((BitVec.ofInt 32 (a : Int) ||| BitVec.ofInt 32 (b : Int)).toNat : Int) = _
  rw [BitVec.toNat_or, h1, h2, IntKind.wrap_i32]
  omega
theorem and_i32 (a b : Nat) (ha : a < 2147483648) (hb : b < 2147483648) : Go.bits .and .i32 (a : Int) (b : Int) = ((a &&& b : Nat) : Int) := by
  have hx : a &&& b < 2 ^ 31 := Nat.and_lt_two_pow _ (by omega)
  have h1 : (BitVec.ofInt 32 (a : Int)).toNat = a := by
    rw [BitVec.ofInt_natCast, BitVec.toNat_ofNat]; exact Nat.mod_eq_of_lt (by omega)
  have h2 : (BitVec.ofInt 32 (b : Int)).toNat = b := by
    rw [BitVec.ofInt_natCast, BitVec.toNat_ofNat]; exact Nat.mod_eq_of_lt (by omega)
  show IntKind.i32.wrap ((BitVec.ofInt 32 (a : Int) &&& BitVec.ofInt 32 (b : Int)).toNat : Int) = _
  rw [BitVec.toNat_and, h1, h2, IntKind.wrap_i32]
  omega
theorem and63_i32 (a : Nat) (ha : a < 2147483648) : Go.bits .and .i32 (a : Int) 63 = ((a % 64 : Nat) : Int) := by
  have := and_i32 a 63 ha (by omega)
  rw [show ((63 : Nat) : Int) = 63 from rfl] at this
  rw [this, show (63 : Nat) = 2 ^ 6 - 1 from rfl, Nat.and_two_pow_sub_one_eq_mod]
theorem or_byte (hi : Nat) : ∀ x : Fin 64, hi % 64 = 0 → hi < 256 → Go.bits .or .u8 (hi : Int) ((x.val : Nat) : Int) = ((hi + x.val : Nat) : Int) := by
  intro x h1 h2
  have key : ∀ (h : Fin 4) (x : Fin 64), Go.bits .or .u8 ((h.val * 64 : Nat) : Int) ((x.val : Nat) : Int) = ((h.val * 64 + x.val : Nat) : Int) := by decide +kernel
  have := key ⟨hi / 64, by omega⟩ x
  rw [show hi / 64 * 64 = hi by omega] at this
  exact this
theorem or_join (v c : Nat) (hc : c < 64) (hv : v < 16777216) : Go.bits .or .i32 (wrap32 ((v : Int) * 64)) (wrap32 (c : Int)) = ((v * 64 + c : Nat) : Int) := by
  rw [show wrap32 ((v : Int) * 64) = ((v * 64 : Nat) : Int) by unfold wrap32; omega, show wrap32 (c : Int) = (c : Int) by unfold wrap32; omega, or_i32 _ _ (by omega) (by omega)]
  congr 1
  have := Nat.shiftLeft_add_eq_or_of_lt (show c < 2 ^ 6 from hc) v
  rw [Nat.shiftLeft_eq] at this
  exact this.symm
/-! ### the model's decoding, over a list of bytes -/
def at_ (l : List UInt8) (k : Nat) : Nat := (l.getD k 0).toNat
def cont_ (l : List UInt8) (k : Nat) : Bool := decide (k < l.length) && (at_ l k / 64 == 2)
def decL (l : List UInt8) : Nat × Nat :=
  if at_ l 0 < 0x80 then (at_ l 0, 1)
  else if (at_ l 0 / 32 == 6 && cont_ l 1) = true then
    if at_ l 0 % 32 * 64 + at_ l 1 % 64 ≥ 0x80 then (at_ l 0 % 32 * 64 + at_ l 1 % 64, 2) else (65533, 1)
  else if (at_ l 0 / 16 == 14 && cont_ l 1 && cont_ l 2) = true then
    if (decide (at_ l 0 % 16 * 4096 + at_ l 1 % 64 * 64 + at_ l 2 % 64 ≥ 0x800) && Utf8.valid ((at_ l 0 % 16 * 4096 + at_ l 1 % 64 * 64 + at_ l 2 % 64 : Nat) : Int)) = true then (at_ l 0 % 16 * 4096 + at_ l 1 % 64 * 64 + at_ l 2 % 64, 3) else (65533, 1)
  else if (at_ l 0 / 8 == 30 && cont_ l 1 && cont_ l 2 && cont_ l 3) = true then
    if (decide (at_ l 0 % 8 * 262144 + at_ l 1 % 64 * 4096 + at_ l 2 % 64 * 64 + at_ l 3 % 64 ≥ 0x10000) && Utf8.valid ((at_ l 0 % 8 * 262144 + at_ l 1 % 64 * 4096 + at_ l 2 % 64 * 64 + at_ l 3 % 64 : Nat) : Int)) = true then (at_ l 0 % 8 * 262144 + at_ l 1 % 64 * 4096 + at_ l 2 % 64 * 64 + at_ l 3 % 64, 4) else (65533, 1)
  else (65533, 1)
theorem get_drop (s : ByteArray) (i k : Nat) : (s.get! (i + k)).toNat = at_ (s.data.toList.drop i) k := by
  unfold at_
  rw [List.getD_eq_getElem?_getD, List.getElem?_drop, Array.getElem?_toList]
  show (s.data[i + k]!).toNat = _
  rw [Array.getElem!_eq_getD, Array.getD_eq_getD_getElem?]
  rfl
theorem decode_drop (s : ByteArray) (i : Nat) : Utf8.decode s i = decL (s.data.toList.drop i) := by
  have hc : ∀ k, decide (i + k < s.size) = decide (k < (s.data.toList.drop i).length) := by
    intro k
    rw [List.length_drop, Array.length_toList, decide_eq_decide]
    show i + k < s.data.size ↔ _
    omega
  unfold Utf8.decode decL
  simp only [hc, get_drop, Utf8.runeError, cont_]
  rfl
/-! ### runes and their bytes -/
/-- Is it a rune? -/
abbrev isR (r : Int) : Prop := 0 ≤ r ∧ r ≤ 1114111 ∧ (r < 55296 ∨ 57343 < r)
/-- A rune's bytes, as numbers. -/
def encZ (r : Int) : List Int :=
  if r < 128 then [r] else if r < 2048 then [192 + r / 64, 128 + r % 64]
  else if r < 65536 then [224 + r / 4096, 128 + r / 64 % 64, 128 + r % 64]
  else [240 + r / 262144, 128 + r / 4096 % 64, 128 + r / 64 % 64, 128 + r % 64]
/-- A rune's bytes. -/
def encB (r : Int) : List UInt8 := (encZ r).map fun x => UInt8.ofNat x.toNat
/-- Runes' bytes. -/
def encA : List Int → List UInt8
  | [] => []
  | r :: l => encB r ++ encA l
theorem encA_append : ∀ a b, encA (a ++ b) = encA a ++ encA b
  | [], _ => rfl
  | r :: l, b => by simp only [List.cons_append, encA, encA_append l b, List.append_assoc]
theorem encB_one {r : Int} (h : r < 128) : encB r = [UInt8.ofNat r.toNat] := by unfold encB encZ; rw [if_pos h]; rfl
theorem encB_two {r : Int} (h : ¬ r < 128) (h2 : r < 2048) : encB r = [UInt8.ofNat (192 + r / 64).toNat, UInt8.ofNat (128 + r % 64).toNat] := by unfold encB encZ; rw [if_neg h, if_pos h2]; rfl
theorem encB_three {r : Int} (h : ¬ r < 128) (h2 : ¬ r < 2048) (h3 : r < 65536) : encB r = [UInt8.ofNat (224 + r / 4096).toNat, UInt8.ofNat (128 + r / 64 % 64).toNat, UInt8.ofNat (128 + r % 64).toNat] := by unfold encB encZ; rw [if_neg h, if_neg h2, if_pos h3]; rfl
theorem encB_four {r : Int} (h : ¬ r < 128) (h2 : ¬ r < 2048) (h3 : ¬ r < 65536) : encB r = [UInt8.ofNat (240 + r / 262144).toNat, UInt8.ofNat (128 + r / 4096 % 64).toNat, UInt8.ofNat (128 + r / 64 % 64).toNat, UInt8.ofNat (128 + r % 64).toNat] := by unfold encB encZ; rw [if_neg h, if_neg h2, if_neg h3]; rfl
theorem encB_pos (r : Int) : 1 ≤ (encB r).length ∧ (encB r).length ≤ 4 := by
  unfold encB encZ
  split
  · simp
  split
  · simp
  split <;> simp
theorem tn (n : Nat) (h : n < 256) : (UInt8.ofNat n).toNat = n := by rw [UInt8.toNat_ofNat']; omega
theorem at_zero (c : UInt8) (l : List UInt8) : at_ (c :: l) 0 = c.toNat := rfl
theorem at_succ (c : UInt8) (l : List UInt8) (k : Nat) : at_ (c :: l) (k + 1) = at_ l k := rfl
theorem cont_succ (c : UInt8) (l : List UInt8) (k : Nat) : cont_ (c :: l) (k + 1) = cont_ l k := by
  unfold cont_
  rw [at_succ, List.length_cons]
  congr 1
  rw [decide_eq_decide]
  omega
theorem cont_zero (c : UInt8) (l : List UInt8) : cont_ (c :: l) 0 = (c.toNat / 64 == 2) := by
  unfold cont_
  rw [at_zero]
  simp
/-- What was encoded is decoded. -/
theorem dec_enc (r : Int) (h : isR r) (B : List UInt8) : decL (encB r ++ B) = (r.toNat, (encB r).length) := by
  obtain ⟨h0, h1, h2⟩ := h
  by_cases c1 : r < 128
  · rw [encB_one c1]
    unfold decL
    simp only [List.cons_append, at_zero, tn _ (show r.toNat < 256 by omega)]
    rw [if_pos (by omega)]
    rfl
  by_cases c2 : r < 2048
  · rw [encB_two c1 c2]
    unfold decL
    simp only [List.cons_append, List.nil_append, at_zero, at_succ, cont_succ, cont_zero, tn _ (show (192 + r / 64).toNat < 256 by omega), tn _ (show (128 + r % 64).toNat < 256 by omega)]
    rw [if_neg (by omega), if_pos (by simp; omega), if_pos (by omega)]
    simp
    omega
  by_cases c3 : r < 65536
  · rw [encB_three c1 c2 c3]
    unfold decL
    simp only [List.cons_append, List.nil_append, at_zero, at_succ, cont_succ, cont_zero, tn _ (show (224 + r / 4096).toNat < 256 by omega), tn _ (show (128 + r / 64 % 64).toNat < 256 by omega), tn _ (show (128 + r % 64).toNat < 256 by omega)]
    have e : (224 + r / 4096).toNat % 16 * 4096 + (128 + r / 64 % 64).toNat % 64 * 64 + (128 + r % 64).toNat % 64 = r.toNat := by omega
    rw [if_neg (by omega), if_neg (by simp; omega), if_pos (by simp; omega), e, if_pos]
    · simp
    · unfold Utf8.valid
      simp
      omega
  · rw [encB_four c1 c2 c3]
    unfold decL
    simp only [List.cons_append, List.nil_append, at_zero, at_succ, cont_succ, cont_zero, tn _ (show (240 + r / 262144).toNat < 256 by omega), tn _ (show (128 + r / 4096 % 64).toNat < 256 by omega), tn _ (show (128 + r / 64 % 64).toNat < 256 by omega), tn _ (show (128 + r % 64).toNat < 256 by omega)]
    have e : (240 + r / 262144).toNat % 8 * 262144 + (128 + r / 4096 % 64).toNat % 64 * 4096 + (128 + r / 64 % 64).toNat % 64 * 64 + (128 + r % 64).toNat % 64 = r.toNat := by omega
    rw [if_neg (by omega), if_neg (by simp; omega), if_neg (by simp; omega), if_pos (by simp; omega), e, if_pos]
    · simp
    · unfold Utf8.valid
      simp
      omega
/-- The runes of what was encoded are those runes. -/
theorem runes_enc (s : ByteArray) : ∀ (rs : List Int) (pos fuel : Nat), (∀ r ∈ rs, isR r) → s.data.toList.drop pos = encA rs → (encA rs).length ≤ fuel → runesFrom s fuel pos = rs
  | [], pos, fuel, _, hd, _ => by
    refine runesFrom_end s fuel pos ?_
    have := congrArg List.length hd
    rw [List.length_drop, Array.length_toList] at this
    simp only [encA, List.length_nil] at this
    show ¬ pos < s.data.size
    omega
  | r :: rs, pos, fuel, hr, hd, hf => by
    have hp := encB_pos r
    simp only [encA, List.length_append] at hf
    obtain ⟨f, rfl⟩ : ∃ f, fuel = f + 1 := ⟨fuel - 1, by omega⟩
    have hlt : pos < s.size := by
      have := congrArg List.length hd
      rw [List.length_drop, Array.length_toList] at this
      simp only [encA, List.length_append] at this
      show pos < s.data.size
      omega
    have hdec : Utf8.decode s pos = (r.toNat, (encB r).length) := by
      rw [decode_drop, hd]
      exact dec_enc r (hr r (by simp)) _
    simp only [runesFrom]
    rw [if_pos hlt, hdec]
    have h0 := (hr r (by simp)).1
    rw [show ((r.toNat : Nat) : Int) = r by omega]
    congr 1
    refine runes_enc s rs (pos + (encB r).length) f (fun x hx => hr x (by simp [hx])) ?_ (by omega)
    rw [← List.drop_drop, hd, encA, List.drop_left]
/-- A text of runes. -/
def txt (rs : List Int) : ByteArray := ⟨(encA rs).toArray⟩
theorem txt_size (rs : List Int) : (txt rs).size = (encA rs).length := by show (encA rs).toArray.size = _; simp
theorem encA_len : ∀ rs, rs.length ≤ (encA rs).length ∧ (encA rs).length ≤ 4 * rs.length
  | [] => ⟨Nat.le_refl _, Nat.le_refl _⟩
  | r :: rs => by
    have := encA_len rs
    have := encB_pos r
    simp only [encA, List.length_append, List.length_cons]
    omega
theorem txt_append (a b : List Int) : txt a ++ txt b = txt (a ++ b) := by
  apply ByteArray.ext
  apply Array.toList_inj.1
  rw [Go.Joins.data_append]
  show (encA a).toArray.toList ++ (encA b).toArray.toList = (encA (a ++ b)).toArray.toList
  rw [encA_append]
theorem runes_txt (rs : List Int) (h : ∀ r ∈ rs, isR r) (hl : rs.length < 4000000) : text_Runes.f (txt rs) = some rs := by
  unfold text_Runes.f
  have := encA_len rs
  rw [txt_size, if_pos (by omega)]
  rw [runes_enc (txt rs) rs 0 _ h rfl (Nat.le_refl _)]
theorem txt_inj {a b : List Int} (ha : ∀ r ∈ a, isR r) (hb : ∀ r ∈ b, isR r) (e : encA a = encA b) : a = b := by
  have h1 := runes_enc (txt a) a 0 (encA a).length ha rfl (Nat.le_refl _)
  have h2 := runes_enc (txt b) b 0 (encA b).length hb rfl (Nat.le_refl _)
  rw [show txt b = txt a by unfold txt; rw [e], ← e] at h2
  rw [← h1, h2]
/-! ### the reference's reading of a rune -/
theorem is_eq (r : Int) : chancelref1_Is.f r = some (decide (isR r)) := by
  unfold chancelref1_Is.f isR
  by_cases h0 : r ≥ 0
  · rw [if_pos h0]
    by_cases h1 : r ≤ 1114111
    · rw [if_pos h1]
      by_cases h2 : r < 55296
      · rw [if_pos h2]; congr 1; symm; rw [decide_eq_true_eq]; omega
      · rw [if_neg h2]; congr 1; rw [decide_eq_decide]; omega
    · rw [if_neg h1]; congr 1; symm; rw [decide_eq_false_iff_not]; omega
  · rw [if_neg h0]; congr 1; symm; rw [decide_eq_false_iff_not]; omega
theorem bt_drop (s : ByteArray) (i j : Nat) (h : i + j < s.size) : bt s ((i + j : Nat) : Int) = ((at_ (s.data.toList.drop i) j : Nat) : Int) := by
  rw [← get_drop]
  unfold bt
  rw [dif_pos (by omega)]
  have : ((i + j : Nat) : Int).toNat = i + j := by omega
  simp only [this]
  congr 1
  show (s.data[i + j]'h).toNat = (s.data[i + j]!).toNat
  rw [getElem!_pos s.data (i + j) h]
theorem at_lt (l : List UInt8) (k : Nat) : at_ l k < 256 := (l.getD k 0).toNat_lt
/-- What the reference does at its loop's end. -/
def oneEnd (v n : Nat) : Int × Int :=
  if isR v ∧ ¬ (n = 2 ∧ v < 128) ∧ ¬ (n = 3 ∧ v < 2048) ∧ ¬ (n = 4 ∧ v < 65536) then (v, n) else (0, 0)
theorem one_end (k : Nat) (s : ByteArray) (i v n x : Nat) (hx : ¬ (x : Int) < n) (hn : n = 2 ∨ n = 3 ∨ n = 4) : chancelref1_One.l0 (k + 1) s i n v x = some (oneEnd v n) := by
  simp only [chancelref1_One.l0]
  rw [if_neg hx, is_eq]
  simp only [Option.bind_some]
  unfold oneEnd
  by_cases hr : isR v
  · rw [if_pos (decide_eq_true hr)]
    rcases hn with rfl | rfl | rfl
    · by_cases h : v < 128
      · rw [if_pos (by omega), if_pos (by omega), if_neg (by omega)]
      · rw [if_pos (by omega), if_neg (by omega), if_neg (by omega), if_neg (by omega), if_pos (by refine ⟨hr, ?_, ?_, ?_⟩ <;> omega)]
    · by_cases h : v < 2048
      · rw [if_neg (by omega), if_pos (by omega), if_pos (by omega), if_neg (by omega)]
      · rw [if_neg (by omega), if_pos (by omega), if_neg (by omega), if_neg (by omega), if_pos (by refine ⟨hr, ?_, ?_, ?_⟩ <;> omega)]
    · by_cases h : v < 65536
      · rw [if_neg (by omega), if_neg (by omega), if_pos (by omega), if_pos (by omega), if_neg (by omega)]
      · rw [if_neg (by omega), if_neg (by omega), if_pos (by omega), if_neg (by omega), if_pos (by refine ⟨hr, ?_, ?_, ?_⟩ <;> omega)]
  · rw [if_neg (by rw [decide_eq_true_eq]; exact hr), if_neg (fun h => hr h.1)]
theorem one_step (k : Nat) (s : ByteArray) (i v n x : Nat) (hx : x < n) (hi : i + x < s.size) (hs : s.size ≤ 140737488351232) (hv : v < 16777216) :
    chancelref1_One.l0 (k + 1) s i n v x = if at_ (s.data.toList.drop i) x / 64 = 2 then chancelref1_One.l0 k s i n ((v * 64 + at_ (s.data.toList.drop i) x % 64 : Nat) : Int) ((x + 1 : Nat) : Int) else some (0, 0) := by
  simp only [chancelref1_One.l0]
  have hb := at_lt (s.data.toList.drop i) x
  have h192 := and192 ⟨_, hb⟩
  have h63 := and63 ⟨_, hb⟩
  simp only at h192 h63
  rw [if_pos (by omega), show wrap64 ((i : Int) + (x : Int)) = ((i + x : Nat) : Int) by unfold wrap64; omega, if_pos (by omega), if_pos (by omega), bt_drop s i x hi, h63,
    or_join v _ (Nat.mod_lt _ (by decide)) hv, show wrap64 ((x : Int) + 1) = ((x + 1 : Nat) : Int) by unfold wrap64; omega]
  by_cases h : at_ (s.data.toList.drop i) x / 64 = 2
  · rw [if_pos (h192.2 h), if_pos h]
  · rw [if_neg (fun e => h (h192.1 e)), if_neg h]
/-- What the document's one is, of bytes. -/
def oneL (l : List UInt8) : Int × Int := if (decL l).1 = 65533 ∧ (decL l).2 = 1 then (0, 0) else (((decL l).1 : Nat), ((decL l).2 : Nat))
theorem valid_iff (v : Nat) : Utf8.valid (v : Int) = decide (isR v) := by
  rw [Bool.eq_iff_iff]
  unfold Utf8.valid
  simp
  omega
theorem oneL_err {l : List UInt8} (h : decL l = (65533, 1)) : oneL l = (0, 0) := by unfold oneL; rw [h]; rfl
theorem oneL_ok {l : List UInt8} {v n : Nat} (h : decL l = (v, n)) (hn : n ≠ 1 ∨ v ≠ 65533) : oneL l = ((v : Int), (n : Int)) := by
  unfold oneL
  rw [h, if_neg (by simp only; omega)]
theorem one_eq (s : ByteArray) (i k : Nat) (hi : i < s.size) (hs : s.size ≤ 140737488351232) (hk : 10 ≤ k) : chancelref1_One.f k s i = some (oneL (s.data.toList.drop i)) := by
  obtain ⟨k, rfl⟩ : ∃ m, k = m + 10 := ⟨k - 10, by omega⟩
  have hb := bt_drop s i 0 hi
  rw [Nat.add_zero] at hb
  have hlen : (s.data.toList.drop i).length = s.size - i := by rw [List.length_drop, Array.length_toList]; rfl
  have h0 := at_lt (s.data.toList.drop i) 0
  have h1 := at_lt (s.data.toList.drop i) 1
  have h2 := at_lt (s.data.toList.drop i) 2
  have h3 := at_lt (s.data.toList.drop i) 3
  have st := fun k v n x hx hi hv => one_step k s i v n x hx hi hs hv
  generalize hL : s.data.toList.drop i = L at *
  unfold chancelref1_One.f
  rw [if_pos (by omega), if_pos (by omega), hb]
  by_cases c1 : at_ L 0 < 128
  · rw [if_pos (by omega), oneL_ok (v := at_ L 0) (n := 1) (by unfold decL; rw [if_pos c1]) (by omega)]
    congr 2
    unfold wrap32
    omega
  rw [if_neg (by omega)]
  have none2 : ∀ v : Int, chancelref1_One.j2 (k + 10) s i 0 v = some (0, 0) ∧ chancelref1_One.j2 (k + 9) s i 0 v = some (0, 0) ∧ chancelref1_One.j2 (k + 8) s i 0 v = some (0, 0) := by
    intro v
    refine ⟨?_, ?_, ?_⟩ <;> simp only [chancelref1_One.j2, chancelref1_One.j3, if_true]
  have far : ∀ (m n : Nat) (v : Int), 0 < n → s.size < i + n → n ≤ 4 → chancelref1_One.j2 (m + 2) s i n v = some (0, 0) := by
    intro m n v hn hlt h4
    simp only [chancelref1_One.j2, chancelref1_One.j3]
    rw [if_neg (by omega), show wrap64 ((i : Int) + (n : Int)) = ((i + n : Nat) : Int) by unfold wrap64; omega, decide_eq_true (show ((i + n : Nat) : Int) > (s.size : Int) by omega)]
    rfl
  have near : ∀ (m n : Nat) (v : Int), 0 < n → i + n ≤ s.size → n ≤ 4 → chancelref1_One.j2 (m + 2) s i n v = chancelref1_One.l0 m s i n v ((1 : Nat) : Int) := by
    intro m n v hn hlt h4
    simp only [chancelref1_One.j2, chancelref1_One.j3]
    rw [if_neg (by omega), show wrap64 ((i : Int) + (n : Int)) = ((i + n : Nat) : Int) by unfold wrap64; omega, decide_eq_false (show ¬ ((i + n : Nat) : Int) > (s.size : Int) by omega)]
    rfl
  by_cases c2 : at_ L 0 < 192
  · rw [if_neg (by omega), oneL_err (by unfold decL; rw [if_neg (by omega), if_neg (by simp; omega), if_neg (by simp; omega), if_neg (by simp; omega)])]
    simp only [chancelref1_One.j0, Bool.false_eq_true, if_false]
    rw [if_neg (by omega)]
    simp only [chancelref1_One.j1, Bool.false_eq_true, if_false]
    rw [if_neg (by omega)]
    exact (none2 0).2.2
  rw [if_pos (by omega)]
  by_cases c3 : at_ L 0 < 224
  · rw [decide_eq_true (show (at_ L 0 : Int) < 224 by omega)]
    simp only [chancelref1_One.j0, if_true]
    have h31 := and31 ⟨_, h0⟩
    simp only at h31
    rw [h31, show wrap32 ((at_ L 0 % 32 : Nat) : Int) = ((at_ L 0 % 32 : Nat) : Int) by unfold wrap32; omega]
    by_cases hlt : i + 2 ≤ s.size
    · have nr := near (k + 7) 2 ((at_ L 0 % 32 : Nat) : Int) (by omega) hlt (by omega)
      rw [show ((2 : Nat) : Int) = 2 from rfl] at nr
      rw [nr, show (2 : Int) = ((2 : Nat) : Int) from rfl, st (k + 6) _ 2 1 (by omega) (by omega) (by omega)]
      by_cases d1 : at_ L 1 / 64 = 2
      · rw [if_pos d1, one_end (k + 5) s i _ 2 (1 + 1) (by omega) (by omega)]
        congr 1
        have hc : (at_ L 0 / 32 == 6 && cont_ L 1) = true := by unfold cont_; simp; omega
        unfold oneEnd
        by_cases hv : at_ L 0 % 32 * 64 + at_ L 1 % 64 ≥ 128
        · rw [oneL_ok (by unfold decL; rw [if_neg (by omega), if_pos hc, if_pos hv]) (by omega), if_pos (by refine ⟨?_, ?_, ?_, ?_⟩ <;> (try unfold isR) <;> omega)]
        · rw [oneL_err (by unfold decL; rw [if_neg (by omega), if_pos hc, if_neg hv]), if_neg (by omega)]
      · rw [if_neg d1, oneL_err (by unfold decL cont_; rw [if_neg (by omega), if_neg (by simp; omega), if_neg (by simp; omega), if_neg (by simp; omega)])]
    · have fr := far (k + 7) 2 ((at_ L 0 % 32 : Nat) : Int) (by omega) (by omega) (by omega)
      rw [show ((2 : Nat) : Int) = 2 from rfl] at fr
      rw [fr, oneL_err (by unfold decL cont_; rw [if_neg (by omega), if_neg (by simp; omega), if_neg (by simp; omega), if_neg (by simp; omega)])]
  rw [decide_eq_false (show ¬ (at_ L 0 : Int) < 224 by omega)]
  simp only [chancelref1_One.j0, Bool.false_eq_true, if_false]
  rw [if_pos (by omega)]
  by_cases c4 : at_ L 0 < 240
  · rw [decide_eq_true (show (at_ L 0 : Int) < 240 by omega)]
    simp only [chancelref1_One.j1, if_true]
    have h15 := and15 ⟨_, h0⟩
    simp only at h15
    rw [h15, show wrap32 ((at_ L 0 % 16 : Nat) : Int) = ((at_ L 0 % 16 : Nat) : Int) by unfold wrap32; omega]
    by_cases hlt : i + 3 ≤ s.size
    · have nr := near (k + 6) 3 ((at_ L 0 % 16 : Nat) : Int) (by omega) hlt (by omega)
      rw [show ((3 : Nat) : Int) = 3 from rfl] at nr
      rw [nr, show (3 : Int) = ((3 : Nat) : Int) from rfl, st (k + 5) _ 3 1 (by omega) (by omega) (by omega)]
      by_cases d1 : at_ L 1 / 64 = 2
      · rw [if_pos d1, st (k + 4) _ 3 (1 + 1) (by omega) (by omega) (by omega)]
        by_cases d2 : at_ L 2 / 64 = 2
        · rw [if_pos d2, one_end (k + 3) s i _ 3 (1 + 1 + 1) (by omega) (by omega)]
          congr 1
          have hc : (at_ L 0 / 16 == 14 && cont_ L 1 && cont_ L 2) = true := by unfold cont_; simp; omega
          have ev : (at_ L 0 % 16 * 64 + at_ L 1 % 64) * 64 + at_ L (1 + 1) % 64 = at_ L 0 % 16 * 4096 + at_ L 1 % 64 * 64 + at_ L 2 % 64 := by
            rw [show at_ L (1 + 1) = at_ L 2 from rfl]; omega
          rw [ev]
          unfold oneEnd
          by_cases hv : at_ L 0 % 16 * 4096 + at_ L 1 % 64 * 64 + at_ L 2 % 64 ≥ 2048 ∧ isR ((at_ L 0 % 16 * 4096 + at_ L 1 % 64 * 64 + at_ L 2 % 64 : Nat) : Int)
          · rw [oneL_ok (by unfold decL; rw [if_neg (by omega), if_neg (by simp; omega), if_pos hc, if_pos (by rw [valid_iff, decide_eq_true hv.1, decide_eq_true hv.2]; rfl)]) (by omega), if_pos (by refine ⟨hv.2, ?_, ?_, ?_⟩ <;> omega)]
          · rw [oneL_err (by unfold decL; rw [if_neg (by omega), if_neg (by simp; omega), if_pos hc, if_neg (by rw [valid_iff, Bool.and_eq_true, decide_eq_true_eq, decide_eq_true_eq]; exact hv)]), if_neg (fun e => hv ⟨by omega, e.1⟩)]
        · rw [if_neg d2, oneL_err (by unfold decL cont_; rw [if_neg (by omega), if_neg (by simp; omega), if_neg (by simp; omega), if_neg (by simp; omega)])]
      · rw [if_neg d1, oneL_err (by unfold decL cont_; rw [if_neg (by omega), if_neg (by simp; omega), if_neg (by simp; omega), if_neg (by simp; omega)])]
    · have fr := far (k + 6) 3 ((at_ L 0 % 16 : Nat) : Int) (by omega) (by omega) (by omega)
      rw [show ((3 : Nat) : Int) = 3 from rfl] at fr
      rw [fr, oneL_err (by unfold decL cont_; rw [if_neg (by omega), if_neg (by simp; omega), if_neg (by simp; omega), if_neg (by simp; omega)])]
  rw [decide_eq_false (show ¬ (at_ L 0 : Int) < 240 by omega)]
  simp only [chancelref1_One.j1, Bool.false_eq_true, if_false]
  rw [if_pos (by omega)]
  by_cases c5 : at_ L 0 < 248
  · rw [if_pos (by omega)]
    have h7 := and7 ⟨_, h0⟩
    simp only at h7
    rw [h7, show wrap32 ((at_ L 0 % 8 : Nat) : Int) = ((at_ L 0 % 8 : Nat) : Int) by unfold wrap32; omega]
    by_cases hlt : i + 4 ≤ s.size
    · have nr := near (k + 6) 4 ((at_ L 0 % 8 : Nat) : Int) (by omega) hlt (by omega)
      rw [show ((4 : Nat) : Int) = 4 from rfl] at nr
      rw [nr, show (4 : Int) = ((4 : Nat) : Int) from rfl, st (k + 5) _ 4 1 (by omega) (by omega) (by omega)]
      by_cases d1 : at_ L 1 / 64 = 2
      · rw [if_pos d1, st (k + 4) _ 4 (1 + 1) (by omega) (by omega) (by omega)]
        by_cases d2 : at_ L 2 / 64 = 2
        · rw [if_pos d2, st (k + 3) _ 4 (1 + 1 + 1) (by omega) (by omega) (by rw [show at_ L (1 + 1) = at_ L 2 from rfl]; omega)]
          by_cases d3 : at_ L 3 / 64 = 2
          · rw [if_pos d3, one_end (k + 2) s i _ 4 (1 + 1 + 1 + 1) (by omega) (by omega)]
            congr 1
            have hc : (at_ L 0 / 8 == 30 && cont_ L 1 && cont_ L 2 && cont_ L 3) = true := by unfold cont_; simp; omega
            have ev : ((at_ L 0 % 8 * 64 + at_ L 1 % 64) * 64 + at_ L (1 + 1) % 64) * 64 + at_ L (1 + 1 + 1) % 64 = at_ L 0 % 8 * 262144 + at_ L 1 % 64 * 4096 + at_ L 2 % 64 * 64 + at_ L 3 % 64 := by
              rw [show at_ L (1 + 1) = at_ L 2 from rfl, show at_ L (1 + 1 + 1) = at_ L 3 from rfl]; omega
            rw [ev]
            unfold oneEnd
            by_cases hv : at_ L 0 % 8 * 262144 + at_ L 1 % 64 * 4096 + at_ L 2 % 64 * 64 + at_ L 3 % 64 ≥ 65536 ∧ isR ((at_ L 0 % 8 * 262144 + at_ L 1 % 64 * 4096 + at_ L 2 % 64 * 64 + at_ L 3 % 64 : Nat) : Int)
            · rw [oneL_ok (by unfold decL; rw [if_neg (by omega), if_neg (by simp; omega), if_neg (by simp; omega), if_pos hc, if_pos (by rw [valid_iff, decide_eq_true hv.1, decide_eq_true hv.2]; rfl)]) (by omega), if_pos (by refine ⟨hv.2, ?_, ?_, ?_⟩ <;> omega)]
            · rw [oneL_err (by unfold decL; rw [if_neg (by omega), if_neg (by simp; omega), if_neg (by simp; omega), if_pos hc, if_neg (by rw [valid_iff, Bool.and_eq_true, decide_eq_true_eq, decide_eq_true_eq]; exact hv)]), if_neg (fun e => hv ⟨by omega, e.1⟩)]
          · rw [if_neg d3, oneL_err (by unfold decL cont_; rw [if_neg (by omega), if_neg (by simp; omega), if_neg (by simp; omega), if_neg (by simp; omega)])]
        · rw [if_neg d2, oneL_err (by unfold decL cont_; rw [if_neg (by omega), if_neg (by simp; omega), if_neg (by simp; omega), if_neg (by simp; omega)])]
      · rw [if_neg d1, oneL_err (by unfold decL cont_; rw [if_neg (by omega), if_neg (by simp; omega), if_neg (by simp; omega), if_neg (by simp; omega)])]
    · have fr := far (k + 6) 4 ((at_ L 0 % 8 : Nat) : Int) (by omega) (by omega) (by omega)
      rw [show ((4 : Nat) : Int) = 4 from rfl] at fr
      rw [fr, oneL_err (by unfold decL cont_; rw [if_neg (by omega), if_neg (by simp; omega), if_neg (by simp; omega), if_neg (by simp; omega)])]
  · rw [if_neg (by omega), oneL_err (by unfold decL; rw [if_neg (by omega), if_neg (by simp; omega), if_neg (by simp; omega), if_neg (by simp; omega)])]
    exact (none2 0).2.2
end Go.Proofs.YtapccgkkcgggiaaDoor.Pure
