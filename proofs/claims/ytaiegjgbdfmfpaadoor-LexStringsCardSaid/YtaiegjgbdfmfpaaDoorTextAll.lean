import Derived.Test.YtaiegjgbdfmfpaaDoorGL1
import Derived.Test.YtaiegjgbdfmfpaaDoorGL4
import Derived.Test.YtaiegjgbdfmfpaaDoorGL5
import Derived.Test.YtaiegjgbdfmfpaaDoorGL6
import Derived.Test.YtaiegjgbdfmfpaaDoorGL7
import Derived.Test.YtaiegjgbdfmfpaaDoorGL8
import Derived.Test.YtaiegjgbdfmfpaaDoorGL12
import Derived.Laws.Bits64b
import Derived.Lib.SmallJoins
import Derived.Lib.Bytes
import Derived.Lib.SlBytesRow
namespace Go.Proofs.YtaiegjgbdfmfpaaDoor.Pure
open Go.RowKit Go.Proofs.YtaiegjgbdfmfpaaDoor.GL Go.Proofs.YtaiegjgbdfmfpaaDoor.HandL Go.Proofs.YtaiegjgbdfmfpaaDoorW.PrintWords Go.Proofs.YtaiegjgbdfmfpaaDoorW.PrintLast
/-! ### masks -/
theorem and192 : ∀ x : Fin 256, (Go.bits .and .u8 ((x.val : Nat) : Int) 192 = 128) ↔ x.val / 64 = 2 := by decide +kernel
theorem and63 : ∀ x : Fin 256, Go.bits .and .u8 ((x.val : Nat) : Int) 63 = ((x.val % 64 : Nat) : Int) := by decide +kernel
theorem and31 : ∀ x : Fin 256, Go.bits .and .u8 ((x.val : Nat) : Int) 31 = ((x.val % 32 : Nat) : Int) := by decide +kernel
theorem and15 : ∀ x : Fin 256, Go.bits .and .u8 ((x.val : Nat) : Int) 15 = ((x.val % 16 : Nat) : Int) := by decide +kernel
theorem and7 : ∀ x : Fin 256, Go.bits .and .u8 ((x.val : Nat) : Int) 7 = ((x.val % 8 : Nat) : Int) := by decide +kernel
theorem or_i32 (a b : Nat) (ha : a < 2147483648) (hb : b < 2147483648) : Go.bits .or .i32 (a : Int) (b : Int) = ((a ||| b : Nat) : Int) := by
  have hx : a ||| b < 2 ^ 31 := Nat.or_lt_two_pow (by omega) (by omega)
  have h1 : (BitVec.ofInt 32 (a : Int)).toNat = a := by
    rw [BitVec.ofInt_natCast, BitVec.toNat_ofNat]; exact Nat.mod_eq_of_lt (by omega)
  have h2 : (BitVec.ofInt 32 (b : Int)).toNat = b := by
    rw [BitVec.ofInt_natCast, BitVec.toNat_ofNat]; exact Nat.mod_eq_of_lt (by omega)
  show IntKind.i32.wrap ((BitVec.ofInt 32 (a : Int) ||| BitVec.ofInt 32 (b : Int)).toNat : Int) = _
  rw [BitVec.toNat_or, h1, h2, IntKind.wrap_i32]
  omega
theorem and_i32 (a b : Nat) (ha : a < 2147483648) (hb : b < 2147483648) : Go.bits .and .i32 (a : Int) (b : Int) = ((a &&& b : Nat) : Int) := by
  have hx : a &&& b < 2 ^ 31 := Nat.and_lt_two_pow _ (by omega)
  have h1 : (BitVec.ofInt 32 (a : Int)).toNat = a := by
    rw [BitVec.ofInt_natCast, BitVec.toNat_ofNat]; exact Nat.mod_eq_of_lt (by omega)
  have h2 : (BitVec.ofInt 32 (b : Int)).toNat = b := by
    rw [BitVec.ofInt_natCast, BitVec.toNat_ofNat]; exact Nat.mod_eq_of_lt (by omega)
  show IntKind.i32.wrap ((BitVec.ofInt 32 (a : Int) &&& BitVec.ofInt 32 (b : Int)).toNat : Int) = _
  rw [BitVec.toNat_and, h1, h2, IntKind.wrap_i32]
  omega
theorem and63_i32 (a : Nat) (ha : a < 2147483648) : Go.bits .and .i32 (a : Int) 63 = ((a % 64 : Nat) : Int) := by
  have := and_i32 a 63 ha (by omega)
  rw [show ((63 : Nat) : Int) = 63 from rfl] at this
  rw [this, show (63 : Nat) = 2 ^ 6 - 1 from rfl, Nat.and_two_pow_sub_one_eq_mod]
theorem or_byte (hi : Nat) : ∀ x : Fin 64, hi % 64 = 0 → hi < 256 → Go.bits .or .u8 (hi : Int) ((x.val : Nat) : Int) = ((hi + x.val : Nat) : Int) := by
  intro x h1 h2
  have key : ∀ (h : Fin 4) (x : Fin 64), Go.bits .or .u8 ((h.val * 64 : Nat) : Int) ((x.val : Nat) : Int) = ((h.val * 64 + x.val : Nat) : Int) := by decide +kernel
  have := key ⟨hi / 64, by omega⟩ x
  rw [show hi / 64 * 64 = hi by omega] at this
  exact this
theorem or_join (v c : Nat) (hc : c < 64) (hv : v < 16777216) : Go.bits .or .i32 (wrap32 ((v : Int) * 64)) (wrap32 (c : Int)) = ((v * 64 + c : Nat) : Int) := by
  rw [show wrap32 ((v : Int) * 64) = ((v * 64 : Nat) : Int) by unfold wrap32; omega, show wrap32 (c : Int) = (c : Int) by unfold wrap32; omega, or_i32 _ _ (by omega) (by omega)]
  congr 1
  have := Nat.shiftLeft_add_eq_or_of_lt (show c < 2 ^ 6 from hc) v
  rw [Nat.shiftLeft_eq] at this
  exact this.symm
/-! ### the model's decoding, over a list of bytes -/
def at_ (l : List UInt8) (k : Nat) : Nat := (l.getD k 0).toNat
def cont_ (l : List UInt8) (k : Nat) : Bool := decide (k < l.length) && (at_ l k / 64 == 2)
def decL (l : List UInt8) : Nat × Nat :=
  if at_ l 0 < 0x80 then (at_ l 0, 1)
  else if (at_ l 0 / 32 == 6 && cont_ l 1) = true then
    if at_ l 0 % 32 * 64 + at_ l 1 % 64 ≥ 0x80 then (at_ l 0 % 32 * 64 + at_ l 1 % 64, 2) else (65533, 1)
  else if (at_ l 0 / 16 == 14 && cont_ l 1 && cont_ l 2) = true then
    if (decide (at_ l 0 % 16 * 4096 + at_ l 1 % 64 * 64 + at_ l 2 % 64 ≥ 0x800) && Utf8.valid ((at_ l 0 % 16 * 4096 + at_ l 1 % 64 * 64 + at_ l 2 % 64 : Nat) : Int)) = true then (at_ l 0 % 16 * 4096 + at_ l 1 % 64 * 64 + at_ l 2 % 64, 3) else (65533, 1)
  else if (at_ l 0 / 8 == 30 && cont_ l 1 && cont_ l 2 && cont_ l 3) = true then
    if (decide (at_ l 0 % 8 * 262144 + at_ l 1 % 64 * 4096 + at_ l 2 % 64 * 64 + at_ l 3 % 64 ≥ 0x10000) && Utf8.valid ((at_ l 0 % 8 * 262144 + at_ l 1 % 64 * 4096 + at_ l 2 % 64 * 64 + at_ l 3 % 64 : Nat) : Int)) = true then (at_ l 0 % 8 * 262144 + at_ l 1 % 64 * 4096 + at_ l 2 % 64 * 64 + at_ l 3 % 64, 4) else (65533, 1)
  else (65533, 1)
theorem get_drop (s : ByteArray) (i k : Nat) : (s.get! (i + k)).toNat = at_ (s.data.toList.drop i) k := by
  unfold at_
  rw [List.getD_eq_getElem?_getD, List.getElem?_drop, Array.getElem?_toList]
  show (s.data[i + k]!).toNat = _
  rw [Array.getElem!_eq_getD, Array.getD_eq_getD_getElem?]
  rfl
theorem decode_drop (s : ByteArray) (i : Nat) : Utf8.decode s i = decL (s.data.toList.drop i) := by
  have hc : ∀ k, decide (i + k < s.size) = decide (k < (s.data.toList.drop i).length) := by
    intro k
    rw [List.length_drop, Array.length_toList, decide_eq_decide]
    show i + k < s.data.size ↔ _
    omega
  unfold Utf8.decode decL
  simp only [hc, get_drop, Utf8.runeError, cont_]
  rfl
/-! ### runes and their bytes -/
/-- Is it a rune? -/
abbrev isR (r : Int) : Prop := 0 ≤ r ∧ r ≤ 1114111 ∧ (r < 55296 ∨ 57343 < r)
/-- A rune's bytes, as numbers. -/
def encZ (r : Int) : List Int :=
  if r < 128 then [r] else if r < 2048 then [192 + r / 64, 128 + r % 64]
  else if r < 65536 then [224 + r / 4096, 128 + r / 64 % 64, 128 + r % 64]
  else [240 + r / 262144, 128 + r / 4096 % 64, 128 + r / 64 % 64, 128 + r % 64]
/-- A rune's bytes. -/
def encB (r : Int) : List UInt8 := (encZ r).map fun x => UInt8.ofNat x.toNat
/-- Runes' bytes. -/
def encA : List Int → List UInt8
  | [] => []
  | r :: l => encB r ++ encA l
theorem encA_append : ∀ a b, encA (a ++ b) = encA a ++ encA b
  | [], _ => rfl
  | r :: l, b => by simp only [List.cons_append, encA, encA_append l b, List.append_assoc]
theorem encB_one {r : Int} (h : r < 128) : encB r = [UInt8.ofNat r.toNat] := by unfold encB encZ; rw [if_pos h]; rfl
theorem encB_two {r : Int} (h : ¬ r < 128) (h2 : r < 2048) : encB r = [UInt8.ofNat (192 + r / 64).toNat, UInt8.ofNat (128 + r % 64).toNat] := by unfold encB encZ; rw [if_neg h, if_pos h2]; rfl
theorem encB_three {r : Int} (h : ¬ r < 128) (h2 : ¬ r < 2048) (h3 : r < 65536) : encB r = [UInt8.ofNat (224 + r / 4096).toNat, UInt8.ofNat (128 + r / 64 % 64).toNat, UInt8.ofNat (128 + r % 64).toNat] := by unfold encB encZ; rw [if_neg h, if_neg h2, if_pos h3]; rfl
theorem encB_four {r : Int} (h : ¬ r < 128) (h2 : ¬ r < 2048) (h3 : ¬ r < 65536) : encB r = [UInt8.ofNat (240 + r / 262144).toNat, UInt8.ofNat (128 + r / 4096 % 64).toNat, UInt8.ofNat (128 + r / 64 % 64).toNat, UInt8.ofNat (128 + r % 64).toNat] := by unfold encB encZ; rw [if_neg h, if_neg h2, if_neg h3]; rfl
theorem encB_pos (r : Int) : 1 ≤ (encB r).length ∧ (encB r).length ≤ 4 := by
  unfold encB encZ
  split
  · simp
  split
  · simp
  split <;> simp
theorem tn (n : Nat) (h : n < 256) : (UInt8.ofNat n).toNat = n := by rw [UInt8.toNat_ofNat']; omega
theorem at_zero (c : UInt8) (l : List UInt8) : at_ (c :: l) 0 = c.toNat := rfl
theorem at_succ (c : UInt8) (l : List UInt8) (k : Nat) : at_ (c :: l) (k + 1) = at_ l k := rfl
theorem cont_succ (c : UInt8) (l : List UInt8) (k : Nat) : cont_ (c :: l) (k + 1) = cont_ l k := by
  unfold cont_
  rw [at_succ, List.length_cons]
  congr 1
  rw [decide_eq_decide]
  omega
theorem cont_zero (c : UInt8) (l : List UInt8) : cont_ (c :: l) 0 = (c.toNat / 64 == 2) := by
  unfold cont_
  rw [at_zero]
  simp
/-- What was encoded is decoded. -/
theorem dec_enc (r : Int) (h : isR r) (B : List UInt8) : decL (encB r ++ B) = (r.toNat, (encB r).length) := by
  obtain ⟨h0, h1, h2⟩ := h
  by_cases c1 : r < 128
  · rw [encB_one c1]
    unfold decL
    simp only [List.cons_append, at_zero, tn _ (show r.toNat < 256 by omega)]
    rw [if_pos (by omega)]
    rfl
  by_cases c2 : r < 2048
  · rw [encB_two c1 c2]
    unfold decL
    simp only [List.cons_append, List.nil_append, at_zero, at_succ, cont_succ, cont_zero, tn _ (show (192 + r / 64).toNat < 256 by omega), tn _ (show (128 + r % 64).toNat < 256 by omega)]
    rw [if_neg (by omega), if_pos (by simp; omega), if_pos (by omega)]
    simp
    omega
  by_cases c3 : r < 65536
  · rw [encB_three c1 c2 c3]
    unfold decL
    simp only [List.cons_append, List.nil_append, at_zero, at_succ, cont_succ, cont_zero, tn _ (show (224 + r / 4096).toNat < 256 by omega), tn _ (show (128 + r / 64 % 64).toNat < 256 by omega), tn _ (show (128 + r % 64).toNat < 256 by omega)]
    have e : (224 + r / 4096).toNat % 16 * 4096 + (128 + r / 64 % 64).toNat % 64 * 64 + (128 + r % 64).toNat % 64 = r.toNat := by omega
    rw [if_neg (by omega), if_neg (by simp; omega), if_pos (by simp; omega), e, if_pos]
    · simp
    · unfold Utf8.valid
      simp
      omega
  · rw [encB_four c1 c2 c3]
    unfold decL
    simp only [List.cons_append, List.nil_append, at_zero, at_succ, cont_succ, cont_zero, tn _ (show (240 + r / 262144).toNat < 256 by omega), tn _ (show (128 + r / 4096 % 64).toNat < 256 by omega), tn _ (show (128 + r / 64 % 64).toNat < 256 by omega), tn _ (show (128 + r % 64).toNat < 256 by omega)]
    have e : (240 + r / 262144).toNat % 8 * 262144 + (128 + r / 4096 % 64).toNat % 64 * 4096 + (128 + r / 64 % 64).toNat % 64 * 64 + (128 + r % 64).toNat % 64 = r.toNat := by omega
    rw [if_neg (by omega), if_neg (by simp; omega), if_neg (by simp; omega), if_pos (by simp; omega), e, if_pos]
    · simp
    · unfold Utf8.valid
      simp
      omega
/-- The runes of what was encoded are those runes. -/
theorem runes_enc (s : ByteArray) : ∀ (rs : List Int) (pos fuel : Nat), (∀ r ∈ rs, isR r) → s.data.toList.drop pos = encA rs → (encA rs).length ≤ fuel → runesFrom s fuel pos = rs
  | [], pos, fuel, _, hd, _ => by
    refine runesFrom_end s fuel pos ?_
    have := congrArg List.length hd
    rw [List.length_drop, Array.length_toList] at this
    simp only [encA, List.length_nil] at this
    show ¬ pos < s.data.size
    omega
  | r :: rs, pos, fuel, hr, hd, hf => by
    have hp := encB_pos r
    simp only [encA, List.length_append] at hf
    obtain ⟨f, rfl⟩ : ∃ f, fuel = f + 1 := ⟨fuel - 1, by omega⟩
    have hlt : pos < s.size := by
      have := congrArg List.length hd
      rw [List.length_drop, Array.length_toList] at this
      simp only [encA, List.length_append] at this
      show pos < s.data.size
      omega
    have hdec : Utf8.decode s pos = (r.toNat, (encB r).length) := by
      rw [decode_drop, hd]
      exact dec_enc r (hr r (by simp)) _
    simp only [runesFrom]
    rw [if_pos hlt, hdec]
    have h0 := (hr r (by simp)).1
    rw [show ((r.toNat : Nat) : Int) = r by omega]
    congr 1
    refine runes_enc s rs (pos + (encB r).length) f (fun x hx => hr x (by simp [hx])) ?_ (by omega)
    rw [← List.drop_drop, hd, encA, List.drop_left]
/-- A text of runes. -/
def txt (rs : List Int) : ByteArray := ⟨(encA rs).toArray⟩
theorem txt_size (rs : List Int) : (txt rs).size = (encA rs).length := by show (encA rs).toArray.size = _; simp
theorem encA_len : ∀ rs, rs.length ≤ (encA rs).length ∧ (encA rs).length ≤ 4 * rs.length
  | [] => ⟨Nat.le_refl _, Nat.le_refl _⟩
  | r :: rs => by
    have := encA_len rs
    have := encB_pos r
    simp only [encA, List.length_append, List.length_cons]
    omega
theorem txt_append (a b : List Int) : txt a ++ txt b = txt (a ++ b) := by
  apply ByteArray.ext
  apply Array.toList_inj.1
  rw [Go.Joins.data_append]
  show (encA a).toArray.toList ++ (encA b).toArray.toList = (encA (a ++ b)).toArray.toList
  rw [encA_append]
theorem runes_txt (rs : List Int) (h : ∀ r ∈ rs, isR r) (hl : rs.length < 4000000) : text_Runes.f (txt rs) = some rs := by
  unfold text_Runes.f
  have := encA_len rs
  rw [txt_size, if_pos (by omega)]
  rw [runes_enc (txt rs) rs 0 _ h rfl (Nat.le_refl _)]
theorem txt_inj {a b : List Int} (ha : ∀ r ∈ a, isR r) (hb : ∀ r ∈ b, isR r) (e : encA a = encA b) : a = b := by
  have h1 := runes_enc (txt a) a 0 (encA a).length ha rfl (Nat.le_refl _)
  have h2 := runes_enc (txt b) b 0 (encA b).length hb rfl (Nat.le_refl _)
  rw [show txt b = txt a by unfold txt; rw [e], ← e] at h2
  rw [← h1, h2]
/-! ### the reference's reading of a rune -/
theorem is_eq (r : Int) : chancelref1_Is.f r = some (decide (isR r)) := by
  unfold chancelref1_Is.f isR
  by_cases h0 : r ≥ 0
  · rw [if_pos h0]
    by_cases h1 : r ≤ 1114111
    · rw [if_pos h1]
      by_cases h2 : r < 55296
      · rw [if_pos h2]; congr 1; symm; rw [decide_eq_true_eq]; omega
      · rw [if_neg h2]; congr 1; rw [decide_eq_decide]; omega
    · rw [if_neg h1]; congr 1; symm; rw [decide_eq_false_iff_not]; omega
  · rw [if_neg h0]; congr 1; symm; rw [decide_eq_false_iff_not]; omega
theorem bt_drop (s : ByteArray) (i j : Nat) (h : i + j < s.size) : bt s ((i + j : Nat) : Int) = ((at_ (s.data.toList.drop i) j : Nat) : Int) := by
  rw [← get_drop]
  unfold bt
  rw [dif_pos (by omega)]
  have : ((i + j : Nat) : Int).toNat = i + j := by omega
  simp only [this]
  congr 1
  show (s.data[i + j]'h).toNat = (s.data[i + j]!).toNat
  rw [getElem!_pos s.data (i + j) h]
theorem at_lt (l : List UInt8) (k : Nat) : at_ l k < 256 := (l.getD k 0).toNat_lt
/-- What the reference does at its loop's end. -/
def oneEnd (v n : Nat) : Int × Int :=
  if isR v ∧ ¬ (n = 2 ∧ v < 128) ∧ ¬ (n = 3 ∧ v < 2048) ∧ ¬ (n = 4 ∧ v < 65536) then (v, n) else (0, 0)
theorem one_end (k : Nat) (s : ByteArray) (i v n x : Nat) (hx : ¬ (x : Int) < n) (hn : n = 2 ∨ n = 3 ∨ n = 4) : chancelref1_One.l0 (k + 1) s i n v x = some (oneEnd v n) := by
  simp only [chancelref1_One.l0]
  rw [if_neg hx, is_eq]
  simp only [Option.bind_some]
  unfold oneEnd
  by_cases hr : isR v
  · rw [if_pos (decide_eq_true hr)]
    rcases hn with rfl | rfl | rfl
    · by_cases h : v < 128
      · rw [if_pos (by omega), if_pos (by omega), if_neg (by omega)]
      · rw [if_pos (by omega), if_neg (by omega), if_neg (by omega), if_neg (by omega), if_pos (by refine ⟨hr, ?_, ?_, ?_⟩ <;> omega)]
    · by_cases h : v < 2048
      · rw [if_neg (by omega), if_pos (by omega), if_pos (by omega), if_neg (by omega)]
      · rw [if_neg (by omega), if_pos (by omega), if_neg (by omega), if_neg (by omega), if_pos (by refine ⟨hr, ?_, ?_, ?_⟩ <;> omega)]
    · by_cases h : v < 65536
      · rw [if_neg (by omega), if_neg (by omega), if_pos (by omega), if_pos (by omega), if_neg (by omega)]
      · rw [if_neg (by omega), if_neg (by omega), if_pos (by omega), if_neg (by omega), if_pos (by refine ⟨hr, ?_, ?_, ?_⟩ <;> omega)]
  · rw [if_neg (by rw [decide_eq_true_eq]; exact hr), if_neg (fun h => hr h.1)]
theorem one_step (k : Nat) (s : ByteArray) (i v n x : Nat) (hx : x < n) (hi : i + x < s.size) (hs : s.size ≤ 140737488351232) (hv : v < 16777216) :
    chancelref1_One.l0 (k + 1) s i n v x = if at_ (s.data.toList.drop i) x / 64 = 2 then chancelref1_One.l0 k s i n ((v * 64 + at_ (s.data.toList.drop i) x % 64 : Nat) : Int) ((x + 1 : Nat) : Int) else some (0, 0) := by
  simp only [chancelref1_One.l0]
  have hb := at_lt (s.data.toList.drop i) x
  have h192 := and192 ⟨_, hb⟩
  have h63 := and63 ⟨_, hb⟩
  simp only at h192 h63
  rw [if_pos (by omega), show wrap64 ((i : Int) + (x : Int)) = ((i + x : Nat) : Int) by unfold wrap64; omega, if_pos (by omega), if_pos (by omega), bt_drop s i x hi, h63,
    or_join v _ (Nat.mod_lt _ (by decide)) hv, show wrap64 ((x : Int) + 1) = ((x + 1 : Nat) : Int) by unfold wrap64; omega]
  by_cases h : at_ (s.data.toList.drop i) x / 64 = 2
  · rw [if_pos (h192.2 h), if_pos h]
  · rw [if_neg (fun e => h (h192.1 e)), if_neg h]
/-- What the document's one is, of bytes. -/
def oneL (l : List UInt8) : Int × Int := if (decL l).1 = 65533 ∧ (decL l).2 = 1 then (0, 0) else (((decL l).1 : Nat), ((decL l).2 : Nat))
theorem valid_iff (v : Nat) : Utf8.valid (v : Int) = decide (isR v) := by
  rw [Bool.eq_iff_iff]
  unfold Utf8.valid
  simp
  omega
theorem oneL_err {l : List UInt8} (h : decL l = (65533, 1)) : oneL l = (0, 0) := by unfold oneL; rw [h]; rfl
theorem oneL_ok {l : List UInt8} {v n : Nat} (h : decL l = (v, n)) (hn : n ≠ 1 ∨ v ≠ 65533) : oneL l = ((v : Int), (n : Int)) := by
  unfold oneL
  rw [h, if_neg (by simp only; omega)]
theorem one_eq (s : ByteArray) (i k : Nat) (hi : i < s.size) (hs : s.size ≤ 140737488351232) (hk : 10 ≤ k) : chancelref1_One.f k s i = some (oneL (s.data.toList.drop i)) := by
  obtain ⟨k, rfl⟩ : ∃ m, k = m + 10 := ⟨k - 10, by omega⟩
  have hb := bt_drop s i 0 hi
  rw [Nat.add_zero] at hb
  have hlen : (s.data.toList.drop i).length = s.size - i := by rw [List.length_drop, Array.length_toList]; rfl
  have h0 := at_lt (s.data.toList.drop i) 0
  have h1 := at_lt (s.data.toList.drop i) 1
  have h2 := at_lt (s.data.toList.drop i) 2
  have h3 := at_lt (s.data.toList.drop i) 3
  have st := fun k v n x hx hi hv => one_step k s i v n x hx hi hs hv
  generalize hL : s.data.toList.drop i = L at *
  unfold chancelref1_One.f
  rw [if_pos (by omega), if_pos (by omega), hb]
  by_cases c1 : at_ L 0 < 128
  · rw [if_pos (by omega), oneL_ok (v := at_ L 0) (n := 1) (by unfold decL; rw [if_pos c1]) (by omega)]
    congr 2
    unfold wrap32
    omega
  rw [if_neg (by omega)]
  have none2 : ∀ v : Int, chancelref1_One.j2 (k + 10) s i 0 v = some (0, 0) ∧ chancelref1_One.j2 (k + 9) s i 0 v = some (0, 0) ∧ chancelref1_One.j2 (k + 8) s i 0 v = some (0, 0) := by
    intro v
    refine ⟨?_, ?_, ?_⟩ <;> simp only [chancelref1_One.j2, chancelref1_One.j3, if_true]
  have far : ∀ (m n : Nat) (v : Int), 0 < n → s.size < i + n → n ≤ 4 → chancelref1_One.j2 (m + 2) s i n v = some (0, 0) := by
    intro m n v hn hlt h4
    simp only [chancelref1_One.j2, chancelref1_One.j3]
    rw [if_neg (by omega), show wrap64 ((i : Int) + (n : Int)) = ((i + n : Nat) : Int) by unfold wrap64; omega, decide_eq_true (show ((i + n : Nat) : Int) > (s.size : Int) by omega)]
    rfl
  have near : ∀ (m n : Nat) (v : Int), 0 < n → i + n ≤ s.size → n ≤ 4 → chancelref1_One.j2 (m + 2) s i n v = chancelref1_One.l0 m s i n v ((1 : Nat) : Int) := by
    intro m n v hn hlt h4
    simp only [chancelref1_One.j2, chancelref1_One.j3]
    rw [if_neg (by omega), show wrap64 ((i : Int) + (n : Int)) = ((i + n : Nat) : Int) by unfold wrap64; omega, decide_eq_false (show ¬ ((i + n : Nat) : Int) > (s.size : Int) by omega)]
    rfl
  by_cases c2 : at_ L 0 < 192
  · rw [if_neg (by omega), oneL_err (by unfold decL; rw [if_neg (by omega), if_neg (by simp; omega), if_neg (by simp; omega), if_neg (by simp; omega)])]
    simp only [chancelref1_One.j0, Bool.false_eq_true, if_false]
    rw [if_neg (by omega)]
    simp only [chancelref1_One.j1, Bool.false_eq_true, if_false]
    rw [if_neg (by omega)]
    exact (none2 0).2.2
  rw [if_pos (by omega)]
  by_cases c3 : at_ L 0 < 224
  · rw [decide_eq_true (show (at_ L 0 : Int) < 224 by omega)]
    simp only [chancelref1_One.j0, if_true]
    have h31 := and31 ⟨_, h0⟩
    simp only at h31
    rw [h31, show wrap32 ((at_ L 0 % 32 : Nat) : Int) = ((at_ L 0 % 32 : Nat) : Int) by unfold wrap32; omega]
    by_cases hlt : i + 2 ≤ s.size
    · have nr := near (k + 7) 2 ((at_ L 0 % 32 : Nat) : Int) (by omega) hlt (by omega)
      rw [show ((2 : Nat) : Int) = 2 from rfl] at nr
      rw [nr, show (2 : Int) = ((2 : Nat) : Int) from rfl, st (k + 6) _ 2 1 (by omega) (by omega) (by omega)]
      by_cases d1 : at_ L 1 / 64 = 2
      · rw [if_pos d1, one_end (k + 5) s i _ 2 (1 + 1) (by omega) (by omega)]
        congr 1
        have hc : (at_ L 0 / 32 == 6 && cont_ L 1) = true := by unfold cont_; simp; omega
        unfold oneEnd
        by_cases hv : at_ L 0 % 32 * 64 + at_ L 1 % 64 ≥ 128
        · rw [oneL_ok (by unfold decL; rw [if_neg (by omega), if_pos hc, if_pos hv]) (by omega), if_pos (by refine ⟨?_, ?_, ?_, ?_⟩ <;> (try unfold isR) <;> omega)]
        · rw [oneL_err (by unfold decL; rw [if_neg (by omega), if_pos hc, if_neg hv]), if_neg (by omega)]
      · rw [if_neg d1, oneL_err (by unfold decL cont_; rw [if_neg (by omega), if_neg (by simp; omega), if_neg (by simp; omega), if_neg (by simp; omega)])]
    · have fr := far (k + 7) 2 ((at_ L 0 % 32 : Nat) : Int) (by omega) (by omega) (by omega)
      rw [show ((2 : Nat) : Int) = 2 from rfl] at fr
      rw [fr, oneL_err (by unfold decL cont_; rw [if_neg (by omega), if_neg (by simp; omega), if_neg (by simp; omega), if_neg (by simp; omega)])]
  rw [decide_eq_false (show ¬ (at_ L 0 : Int) < 224 by omega)]
  simp only [chancelref1_One.j0, Bool.false_eq_true, if_false]
  rw [if_pos (by omega)]
  by_cases c4 : at_ L 0 < 240
  · rw [decide_eq_true (show (at_ L 0 : Int) < 240 by omega)]
    simp only [chancelref1_One.j1, if_true]
    have h15 := and15 ⟨_, h0⟩
    simp only at h15
    rw [h15, show wrap32 ((at_ L 0 % 16 : Nat) : Int) = ((at_ L 0 % 16 : Nat) : Int) by unfold wrap32; omega]
    by_cases hlt : i + 3 ≤ s.size
    · have nr := near (k + 6) 3 ((at_ L 0 % 16 : Nat) : Int) (by omega) hlt (by omega)
      rw [show ((3 : Nat) : Int) = 3 from rfl] at nr
      rw [nr, show (3 : Int) = ((3 : Nat) : Int) from rfl, st (k + 5) _ 3 1 (by omega) (by omega) (by omega)]
      by_cases d1 : at_ L 1 / 64 = 2
      · rw [if_pos d1, st (k + 4) _ 3 (1 + 1) (by omega) (by omega) (by omega)]
        by_cases d2 : at_ L 2 / 64 = 2
        · rw [if_pos d2, one_end (k + 3) s i _ 3 (1 + 1 + 1) (by omega) (by omega)]
          congr 1
          have hc : (at_ L 0 / 16 == 14 && cont_ L 1 && cont_ L 2) = true := by unfold cont_; simp; omega
          have ev : (at_ L 0 % 16 * 64 + at_ L 1 % 64) * 64 + at_ L (1 + 1) % 64 = at_ L 0 % 16 * 4096 + at_ L 1 % 64 * 64 + at_ L 2 % 64 := by
            rw [show at_ L (1 + 1) = at_ L 2 from rfl]; omega
          rw [ev]
          unfold oneEnd
          by_cases hv : at_ L 0 % 16 * 4096 + at_ L 1 % 64 * 64 + at_ L 2 % 64 ≥ 2048 ∧ isR ((at_ L 0 % 16 * 4096 + at_ L 1 % 64 * 64 + at_ L 2 % 64 : Nat) : Int)
          · rw [oneL_ok (by unfold decL; rw [if_neg (by omega), if_neg (by simp; omega), if_pos hc, if_pos (by rw [valid_iff, decide_eq_true hv.1, decide_eq_true hv.2]; rfl)]) (by omega), if_pos (by refine ⟨hv.2, ?_, ?_, ?_⟩ <;> omega)]
          · rw [oneL_err (by unfold decL; rw [if_neg (by omega), if_neg (by simp; omega), if_pos hc, if_neg (by rw [valid_iff, Bool.and_eq_true, decide_eq_true_eq, decide_eq_true_eq]; exact hv)]), if_neg (fun e => hv ⟨by omega, e.1⟩)]
        · rw [if_neg d2, oneL_err (by unfold decL cont_; rw [if_neg (by omega), if_neg (by simp; omega), if_neg (by simp; omega), if_neg (by simp; omega)])]
      · rw [if_neg d1, oneL_err (by unfold decL cont_; rw [if_neg (by omega), if_neg (by simp; omega), if_neg (by simp; omega), if_neg (by simp; omega)])]
    · have fr := far (k + 6) 3 ((at_ L 0 % 16 : Nat) : Int) (by omega) (by omega) (by omega)
      rw [show ((3 : Nat) : Int) = 3 from rfl] at fr
      rw [fr, oneL_err (by unfold decL cont_; rw [if_neg (by omega), if_neg (by simp; omega), if_neg (by simp; omega), if_neg (by simp; omega)])]
  rw [decide_eq_false (show ¬ (at_ L 0 : Int) < 240 by omega)]
  simp only [chancelref1_One.j1, Bool.false_eq_true, if_false]
  rw [if_pos (by omega)]
  by_cases c5 : at_ L 0 < 248
  · rw [if_pos (by omega)]
    have h7 := and7 ⟨_, h0⟩
    simp only at h7
    rw [h7, show wrap32 ((at_ L 0 % 8 : Nat) : Int) = ((at_ L 0 % 8 : Nat) : Int) by unfold wrap32; omega]
    by_cases hlt : i + 4 ≤ s.size
    · have nr := near (k + 6) 4 ((at_ L 0 % 8 : Nat) : Int) (by omega) hlt (by omega)
      rw [show ((4 : Nat) : Int) = 4 from rfl] at nr
      rw [nr, show (4 : Int) = ((4 : Nat) : Int) from rfl, st (k + 5) _ 4 1 (by omega) (by omega) (by omega)]
      by_cases d1 : at_ L 1 / 64 = 2
      · rw [if_pos d1, st (k + 4) _ 4 (1 + 1) (by omega) (by omega) (by omega)]
        by_cases d2 : at_ L 2 / 64 = 2
        · rw [if_pos d2, st (k + 3) _ 4 (1 + 1 + 1) (by omega) (by omega) (by rw [show at_ L (1 + 1) = at_ L 2 from rfl]; omega)]
          by_cases d3 : at_ L 3 / 64 = 2
          · rw [if_pos d3, one_end (k + 2) s i _ 4 (1 + 1 + 1 + 1) (by omega) (by omega)]
            congr 1
            have hc : (at_ L 0 / 8 == 30 && cont_ L 1 && cont_ L 2 && cont_ L 3) = true := by unfold cont_; simp; omega
            have ev : ((at_ L 0 % 8 * 64 + at_ L 1 % 64) * 64 + at_ L (1 + 1) % 64) * 64 + at_ L (1 + 1 + 1) % 64 = at_ L 0 % 8 * 262144 + at_ L 1 % 64 * 4096 + at_ L 2 % 64 * 64 + at_ L 3 % 64 := by
              rw [show at_ L (1 + 1) = at_ L 2 from rfl, show at_ L (1 + 1 + 1) = at_ L 3 from rfl]; omega
            rw [ev]
            unfold oneEnd
            by_cases hv : at_ L 0 % 8 * 262144 + at_ L 1 % 64 * 4096 + at_ L 2 % 64 * 64 + at_ L 3 % 64 ≥ 65536 ∧ isR ((at_ L 0 % 8 * 262144 + at_ L 1 % 64 * 4096 + at_ L 2 % 64 * 64 + at_ L 3 % 64 : Nat) : Int)
            · rw [oneL_ok (by unfold decL; rw [if_neg (by omega), if_neg (by simp; omega), if_neg (by simp; omega), if_pos hc, if_pos (by rw [valid_iff, decide_eq_true hv.1, decide_eq_true hv.2]; rfl)]) (by omega), if_pos (by refine ⟨hv.2, ?_, ?_, ?_⟩ <;> omega)]
            · rw [oneL_err (by unfold decL; rw [if_neg (by omega), if_neg (by simp; omega), if_neg (by simp; omega), if_pos hc, if_neg (by rw [valid_iff, Bool.and_eq_true, decide_eq_true_eq, decide_eq_true_eq]; exact hv)]), if_neg (fun e => hv ⟨by omega, e.1⟩)]
          · rw [if_neg d3, oneL_err (by unfold decL cont_; rw [if_neg (by omega), if_neg (by simp; omega), if_neg (by simp; omega), if_neg (by simp; omega)])]
        · rw [if_neg d2, oneL_err (by unfold decL cont_; rw [if_neg (by omega), if_neg (by simp; omega), if_neg (by simp; omega), if_neg (by simp; omega)])]
      · rw [if_neg d1, oneL_err (by unfold decL cont_; rw [if_neg (by omega), if_neg (by simp; omega), if_neg (by simp; omega), if_neg (by simp; omega)])]
    · have fr := far (k + 6) 4 ((at_ L 0 % 8 : Nat) : Int) (by omega) (by omega) (by omega)
      rw [show ((4 : Nat) : Int) = 4 from rfl] at fr
      rw [fr, oneL_err (by unfold decL cont_; rw [if_neg (by omega), if_neg (by simp; omega), if_neg (by simp; omega), if_neg (by simp; omega)])]
  · rw [if_neg (by omega), oneL_err (by unfold decL; rw [if_neg (by omega), if_neg (by simp; omega), if_neg (by simp; omega), if_neg (by simp; omega)])]
    exact (none2 0).2.2
end Go.Proofs.YtaiegjgbdfmfpaaDoor.Pure
namespace Go.Proofs.YtaiegjgbdfmfpaaDoor.Pure
open Go.RowKit Go.Proofs.YtaiegjgbdfmfpaaDoor.GL Go.Proofs.YtaiegjgbdfmfpaaDoor.HandL Go.Proofs.YtaiegjgbdfmfpaaDoorW.PrintWords Go.Proofs.YtaiegjgbdfmfpaaDoorW.PrintLast
/-! ### the reference's runes of a text, and its text of runes -/
theorem or224 : ∀ x : Fin 16, Go.bits .or .u8 224 ((x.val : Nat) : Int) = ((224 + x.val : Nat) : Int) := by decide +kernel
theorem or240 : ∀ x : Fin 8, Go.bits .or .u8 240 ((x.val : Nat) : Int) = ((240 + x.val : Nat) : Int) := by decide +kernel
theorem or192 : ∀ x : Fin 32, Go.bits .or .u8 192 ((x.val : Nat) : Int) = ((192 + x.val : Nat) : Int) := by decide +kernel
theorem or128 : ∀ x : Fin 64, Go.bits .or .u8 128 ((x.val : Nat) : Int) = ((128 + x.val : Nat) : Int) := by decide +kernel
theorem put_eq (l : List Int) (r : Int) (h : isR r) (hl : l.length < 140000000000000) : chancelref1_put.f l r = some (l ++ encZ r) := by
  obtain ⟨h0, h1, h2⟩ := h
  obtain ⟨n, rfl⟩ : ∃ n : Nat, r = n := ⟨r.toNat, by omega⟩
  have a63 : ∀ m : Nat, m < 2147483648 → Go.bits .or .u8 128 (Go.bits .and .i32 (m : Int) 63 % 256) = ((128 + m % 64 : Nat) : Int) := by
    intro m hm
    rw [and63_i32 m hm, show (((m % 64 : Nat) : Int)) % 256 = ((m % 64 : Nat) : Int) by omega]
    exact or128 ⟨m % 64, Nat.mod_lt _ (by decide)⟩
  unfold chancelref1_put.f encZ
  by_cases c1 : (n : Int) < 128
  · rw [if_pos c1, if_pos c1, if_pos (by omega), show (n : Int) % 256 = n by omega]
  rw [if_neg c1, if_neg c1]
  by_cases c2 : (n : Int) < 2048
  · rw [if_pos c2, if_pos c2, a63 n (by omega), show (n : Int) / 64 % 256 = ((n / 64 : Nat) : Int) by omega, or192 ⟨n / 64, by omega⟩]
    simp only [Option.bind_some, List.length_cons, List.length_nil]
    rw [if_pos (by omega)]
    congr 2
  rw [if_neg c2, if_neg c2]
  by_cases c3 : (n : Int) < 65536
  · rw [if_pos c3, if_pos c3, a63 n (by omega), show (n : Int) / 4096 % 256 = ((n / 4096 : Nat) : Int) by omega, or224 ⟨n / 4096, by omega⟩, show (n : Int) / 64 = ((n / 64 : Nat) : Int) from rfl, a63 (n / 64) (by omega)]
    simp only [Option.bind_some, List.length_cons, List.length_nil]
    rw [if_pos (by omega)]
    congr 2
  · rw [if_neg c3, if_neg c3, a63 n (by omega), show (n : Int) / 262144 % 256 = ((n / 262144 : Nat) : Int) by omega, or240 ⟨n / 262144, by omega⟩, show (n : Int) / 64 = ((n / 64 : Nat) : Int) from rfl, a63 (n / 64) (by omega),
      show (n : Int) / 4096 = ((n / 4096 : Nat) : Int) from rfl, a63 (n / 4096) (by omega)]
    simp only [Option.bind_some, List.length_cons, List.length_nil]
    rw [if_pos (by omega)]
    congr 2
/-- Runes' bytes, as numbers. -/
def encN : List Int → List Int
  | [] => []
  | r :: l => encZ r ++ encN l
theorem encN_bytes : ∀ rs, (encN rs).map (fun x => UInt8.ofNat x.toNat) = encA rs
  | [] => rfl
  | r :: l => by simp only [encN, encA, List.map_append, encN_bytes l]; rfl
theorem str_enc (rs : List Int) : strOfNums (encN rs) = txt rs := by
  apply ByteArray.ext
  apply Array.toList_inj.1
  rw [strOfNums_data]
  show (encN rs).map _ = (encA rs).toArray.toList
  rw [← encN_bytes]
theorem encZ_len (r : Int) : (encZ r).length ≤ 4 := by
  unfold encZ
  split
  · simp
  split
  · simp
  split <;> simp
theorem rd_at (l : List Int) (i : Nat) (h : i < l.length) : rd l (i : Int) = l[i]'h := by
  unfold rd
  rw [show ((i : Int)).toNat = i by omega, List.getD_eq_getElem?_getD, List.getElem?_eq_getElem h]
  rfl
theorem of_l0 (rs : List Int) (hr : ∀ r ∈ rs, isR r) (hl : rs.length < 1000000) (d : Nat) : ∀ (i k : Nat) (acc : List Int), rs.length - i = d → i ≤ rs.length → d < k → acc.length ≤ 4 * i →
    chancelref1_Of.l0 k rs acc i = some (strOfNums (acc ++ encN (rs.drop i)), 0) := by
  induction d with
  | zero =>
    intro i k acc h1 h2 h3 h4
    obtain ⟨k, rfl⟩ : ∃ m, k = m + 1 := ⟨k - 1, by omega⟩
    simp only [chancelref1_Of.l0]
    rw [if_neg (by omega), List.drop_of_length_le (by omega)]
    simp [encN]
  | succ d ih =>
    intro i k acc h1 h2 h3 h4
    obtain ⟨k, rfl⟩ : ∃ m, k = m + 1 := ⟨k - 1, by omega⟩
    have hi : i < rs.length := by omega
    have hR := hr (rs[i]'hi) (List.getElem_mem hi)
    have hz := encZ_len (rs[i]'hi)
    simp only [chancelref1_Of.l0]
    rw [if_pos (by omega), if_pos (by omega), rd_at rs i hi, is_eq]
    simp only [Option.bind_some]
    rw [if_pos (decide_eq_true hR), put_eq acc _ hR (by omega)]
    simp only [Option.bind_some]
    rw [show wrap64 ((i : Int) + 1) = ((i + 1 : Nat) : Int) by unfold wrap64; omega, ih (i + 1) k (acc ++ encZ (rs[i]'hi)) (by omega) (by omega) (by omega) (by rw [List.length_append]; omega),
      List.drop_eq_getElem_cons hi, encN, List.append_assoc]
theorem of_eq (rs : List Int) (hr : ∀ r ∈ rs, isR r) (hl : rs.length < 1000000) (k : Nat) (hk : rs.length < k) : chancelref1_Of.f k rs = some (txt rs, 0) := by
  unfold chancelref1_Of.f
  have := of_l0 rs hr hl rs.length 0 k [] (by omega) (by omega) hk (by simp)
  rw [show ((0 : Nat) : Int) = 0 from rfl] at this
  rw [this, List.nil_append, List.drop_zero, str_enc]
/-- The reference's runes of what was written. -/
theorem ref_runes (s : ByteArray) (hs : s.size ≤ 140737488351232) : ∀ (rs : List Int) (i k : Nat) (acc : List Int), (∀ r ∈ rs, isR r) → s.data.toList.drop i = encA rs → i ≤ s.size → rs.length + 10 < k → acc.length + rs.length < 35184372088832 →
    chancelref1_Runes.l0 k s acc i = some (acc ++ rs)
  | [], i, k, acc, _, hd, hi, hk, _ => by
    obtain ⟨k, rfl⟩ : ∃ m, k = m + 1 := ⟨k - 1, by omega⟩
    have := congrArg List.length hd
    rw [List.length_drop, Array.length_toList] at this
    simp only [encA, List.length_nil] at this
    have hsz : s.data.size = s.size := rfl
    simp only [chancelref1_Runes.l0]
    rw [if_neg (by omega), List.append_nil]
  | r :: rs, i, k, acc, hr, hd, hi, hk, hl => by
    obtain ⟨k, rfl⟩ : ∃ m, k = m + 1 := ⟨k - 1, by omega⟩
    have hp := encB_pos r
    have hlen := congrArg List.length hd
    rw [List.length_drop, Array.length_toList] at hlen
    simp only [encA, List.length_append] at hlen
    have hsz : s.data.size = s.size := rfl
    simp only [List.length_cons] at hk hl
    have hR := hr r (by simp)
    have hdec := dec_enc r hR (encA rs)
    have h1 : oneL (s.data.toList.drop i) = (r, ((encB r).length : Int)) := by
      rw [hd, encA, oneL_ok hdec]
      · rw [show ((r.toNat : Nat) : Int) = r by have := hR.1; omega]
      · by_cases c : r < 128
        · right; omega
        · left
          by_cases c2 : r < 2048
          · rw [encB_two c c2]; simp
          · by_cases c3 : r < 65536
            · rw [encB_three c c2 c3]; simp
            · rw [encB_four c c2 c3]; simp
    simp only [chancelref1_Runes.l0]
    rw [if_pos (by omega), one_eq s i k (by omega) hs (by omega), h1]
    simp only [Option.bind_some]
    rw [if_neg (by omega), if_pos (by omega), show wrap64 ((i : Int) + ((encB r).length : Int)) = ((i + (encB r).length : Nat) : Int) by unfold wrap64; omega,
      ref_runes s hs rs (i + (encB r).length) k (acc ++ [r]) (fun x hx => hr x (by simp [hx])) (by rw [← List.drop_drop, hd, encA, List.drop_left]) (by omega) (by omega) (by simp; omega), List.append_assoc]
    rfl
theorem ref_runes_txt (rs : List Int) (hr : ∀ r ∈ rs, isR r) (hl : rs.length < 1000000) (k : Nat) (hk : rs.length + 10 < k) : chancelref1_Runes.f k (txt rs) = some rs := by
  unfold chancelref1_Runes.f
  have hb := encA_len rs
  have := ref_runes (txt rs) (by rw [txt_size]; omega) rs 0 k [] hr (by rw [List.drop_zero]; rfl) (by omega) hk (by simp; omega)
  rw [show ((0 : Nat) : Int) = 0 from rfl] at this
  rw [this, List.nil_append]
/-! ### the statements' own texts -/
theorem within_eq (a n : Int) (hn : 0 < n) (hn2 : n ≤ 1000000000) : ∃ r, chancellaw1_within.f a n = some r ∧ 0 ≤ r ∧ r < n := by
  unfold chancellaw1_within.f
  rw [if_neg (by omega)]
  have e : (Int.tmod a n).natAbs = a.natAbs % n.natAbs := Int.natAbs_tmod a n
  have := Nat.mod_lt a.natAbs (show 0 < n.natAbs by omega)
  split
  · refine ⟨_, rfl, ?_⟩
    rw [show wrap64 (Int.tmod a n + n) = Int.tmod a n + n by unfold wrap64; omega]
    omega
  · exact ⟨_, rfl, by omega, by omega⟩
/-- The runes of which the statements' texts are made. -/
def some22 : List Int := [97, 98, 42, 34, 92, 10, 9, 1, 31, 127, 128, 233, 2047, 2048, 8364, 55295, 57344, 65533, 65535, 65536, 128512, 1114111]
theorem some22_good : ∀ r ∈ some22, isR r ∧ r ≠ 888 := by decide
theorem law_of_l0 (l : List Int) (d : Nat) : ∀ (i : Nat) (acc : List Int), 40 - i = d → i ≤ 40 → acc.length ≤ i → (∀ r ∈ acc, r ∈ some22) →
    ∃ rs, rs.length ≤ 40 ∧ (∀ r ∈ rs, r ∈ some22) ∧ ∀ k, 100 + d < k → chancellaw1_Of.l0 k l some22 acc i = some (txt rs) := by
  have fin : ∀ (acc : List Int) (k : Nat), acc.length ≤ 40 → (∀ r ∈ acc, r ∈ some22) → 100 ≤ k → ((chancelref1_Of.f k acc).bind fun bt150 => (some bt150.1)) = some (txt acc) := by
    intro acc k h1 h2 h3
    rw [of_eq acc (fun r hr => (some22_good r (h2 r hr)).1) (by omega) k (by omega)]
    rfl
  induction d with
  | zero =>
    intro i acc h1 h2 h3 h4
    refine ⟨acc, by omega, h4, fun k hk => ?_⟩
    obtain ⟨k, rfl⟩ : ∃ m, k = m + 1 := ⟨k - 1, by omega⟩
    simp only [chancellaw1_Of.l0]
    by_cases hl : (i : Int) < (l.length : Int)
    · rw [if_pos hl, if_neg (by omega)]
      exact fin acc k (by omega) h4 (by omega)
    · rw [if_neg hl]
      exact fin acc k (by omega) h4 (by omega)
  | succ d ih =>
    intro i acc h1 h2 h3 h4
    by_cases hl : (i : Int) < (l.length : Int)
    · obtain ⟨t, ht, t0, t1⟩ := within_eq (rd l i) 22 (by omega) (by omega)
      have hmem : rd some22 t ∈ some22 := by
        obtain ⟨n, rfl⟩ : ∃ n : Nat, t = n := ⟨t.toNat, by omega⟩
        rw [rd_at some22 n (by show n < 22; omega)]
        exact List.getElem_mem _
      obtain ⟨rs, r1, r2, r3⟩ := ih (i + 1) (acc ++ [rd some22 t]) (by omega) (by omega) (by simp; omega) (by
        intro r hr
        rcases List.mem_append.1 hr with h | h
        · exact h4 r h
        · rw [List.mem_singleton.1 h]; exact hmem)
      refine ⟨rs, r1, r2, fun k hk => ?_⟩
      obtain ⟨k, rfl⟩ : ∃ m, k = m + 1 := ⟨k - 1, by omega⟩
      simp only [chancellaw1_Of.l0]
      rw [if_pos hl, if_pos (by omega), if_pos (by omega), show ((some22.length : Nat) : Int) = 22 from rfl, ht]
      simp only [Option.bind_some]
      rw [if_pos t0, if_pos t1, if_pos (by omega), show wrap64 ((i : Int) + 1) = ((i + 1 : Nat) : Int) by unfold wrap64; omega]
      exact r3 k (by omega)
    · refine ⟨acc, by omega, h4, fun k hk => ?_⟩
      obtain ⟨k, rfl⟩ : ∃ m, k = m + 1 := ⟨k - 1, by omega⟩
      simp only [chancellaw1_Of.l0]
      rw [if_neg hl]
      exact fin acc k (by omega) h4 (by omega)
/-- A statement's text: at most 40 runes, of those. -/
theorem law_of (l : List Int) : ∃ rs, rs.length ≤ 40 ∧ (∀ r ∈ rs, r ∈ some22) ∧ ∀ k, 140 < k → chancellaw1_Of.f k l = some (txt rs) := by
  obtain ⟨rs, h1, h2, h3⟩ := law_of_l0 l 40 0 [] (by omega) (by omega) (by simp) (by simp)
  exact ⟨rs, h1, h2, fun k hk => h3 k (by omega)⟩
end Go.Proofs.YtaiegjgbdfmfpaaDoor.Pure
namespace Go.Proofs.YtaiegjgbdfmfpaaDoor.Pure
open Go.RowKit Go.Proofs.YtaiegjgbdfmfpaaDoor.GL Go.Proofs.YtaiegjgbdfmfpaaDoor.HandL Go.Proofs.YtaiegjgbdfmfpaaDoorW.PrintWords Go.Proofs.YtaiegjgbdfmfpaaDoorW.PrintLast
/-! ### any bytes: what is decoded of them -/
theorem u8_of (c : UInt8) (n : Nat) (h : n = c.toNat) : UInt8.ofNat n = c := by subst h; exact UInt8.ofNat_toNat
theorem cont_one {c : UInt8} {t : List UInt8} (h : cont_ (c :: t) 1 = true) : ∃ d t', t = d :: t' ∧ d.toNat / 64 = 2 := by
  rw [cont_succ] at h
  cases t with
  | nil => simp [cont_] at h
  | cons d t' => rw [cont_zero] at h; exact ⟨d, t', rfl, by simpa using h⟩
theorem dec_cases (l : List UInt8) (hl : l ≠ []) : (decL l = (65533, 1)) ∨ (∃ r, isR r ∧ decL l = (r.toNat, (encB r).length) ∧ l = encB r ++ l.drop (encB r).length) := by
  obtain ⟨c0, t, rfl⟩ : ∃ c t, l = c :: t := by cases l with
    | nil => exact absurd rfl hl
    | cons c t => exact ⟨c, t, rfl⟩
  have b0 := c0.toNat_lt
  by_cases c1 : c0.toNat < 128
  · right
    refine ⟨(c0.toNat : Int), ⟨by omega, by omega, by omega⟩, ?_, ?_⟩
    · rw [encB_one (by omega)]
      unfold decL
      rw [at_zero, if_pos c1]
      simp
    · rw [encB_one (by omega), u8_of c0 _ (by omega)]
      rfl
  by_cases c2 : (at_ (c0 :: t) 0 / 32 == 6 && cont_ (c0 :: t) 1) = true
  · have h := c2
    rw [Bool.and_eq_true, at_zero, beq_iff_eq] at h
    obtain ⟨h0, h1⟩ := h
    obtain ⟨d1, t, rfl, h1⟩ := cont_one h1
    have b1 := d1.toNat_lt
    unfold decL
    rw [if_neg (by rw [at_zero]; omega), if_pos c2]
    obtain ⟨v, hv2⟩ : ∃ v, at_ (c0 :: d1 :: t) 0 % 32 * 64 + at_ (c0 :: d1 :: t) 1 % 64 = v := ⟨_, rfl⟩
    rw [hv2]
    rw [at_zero, at_succ, at_zero] at hv2
    by_cases hv : v ≥ 128
    · right
      rw [if_pos hv]
      refine ⟨(v : Int), ⟨by omega, by omega, by omega⟩, ?_, ?_⟩
      · rw [encB_two (by omega) (by omega)]; simp
      · rw [encB_two (by omega) (by omega), u8_of c0 _ (by omega), u8_of d1 _ (by omega)]
        rfl
    · left
      rw [if_neg hv]
  by_cases c3 : (at_ (c0 :: t) 0 / 16 == 14 && cont_ (c0 :: t) 1 && cont_ (c0 :: t) 2) = true
  · have h := c3
    rw [Bool.and_eq_true, Bool.and_eq_true, at_zero, beq_iff_eq] at h
    obtain ⟨⟨h0, h1⟩, h2⟩ := h
    obtain ⟨d1, t, rfl, h1⟩ := cont_one h1
    rw [cont_succ] at h2
    obtain ⟨d2, t, rfl, h2⟩ := cont_one h2
    have b1 := d1.toNat_lt
    have b2 := d2.toNat_lt
    unfold decL
    rw [if_neg (by rw [at_zero]; omega), if_neg c2, if_pos c3]
    obtain ⟨v, hv2⟩ : ∃ v, at_ (c0 :: d1 :: d2 :: t) 0 % 16 * 4096 + at_ (c0 :: d1 :: d2 :: t) 1 % 64 * 64 + at_ (c0 :: d1 :: d2 :: t) 2 % 64 = v := ⟨_, rfl⟩
    rw [hv2, valid_iff]
    rw [at_zero, at_succ, at_zero, at_succ, at_succ, at_zero] at hv2
    by_cases hv : (decide (v ≥ 2048) && decide (isR (v : Int))) = true
    · right
      rw [if_pos hv]
      rw [Bool.and_eq_true, decide_eq_true_eq, decide_eq_true_eq] at hv
      refine ⟨(v : Int), hv.2, ?_, ?_⟩
      · rw [encB_three (by omega) (by omega) (by omega)]; simp
      · rw [encB_three (by omega) (by omega) (by omega), u8_of c0 _ (by omega), u8_of d1 _ (by omega), u8_of d2 _ (by omega)]
        rfl
    · left
      rw [if_neg hv]
  by_cases c4 : (at_ (c0 :: t) 0 / 8 == 30 && cont_ (c0 :: t) 1 && cont_ (c0 :: t) 2 && cont_ (c0 :: t) 3) = true
  · have h := c4
    rw [Bool.and_eq_true, Bool.and_eq_true, Bool.and_eq_true, at_zero, beq_iff_eq] at h
    obtain ⟨⟨⟨h0, h1⟩, h2⟩, h3⟩ := h
    obtain ⟨d1, t, rfl, h1⟩ := cont_one h1
    rw [cont_succ] at h2 h3
    obtain ⟨d2, t, rfl, h2⟩ := cont_one h2
    rw [cont_succ] at h3
    obtain ⟨d3, t, rfl, h3⟩ := cont_one h3
    have b1 := d1.toNat_lt
    have b2 := d2.toNat_lt
    have b3 := d3.toNat_lt
    unfold decL
    rw [if_neg (by rw [at_zero]; omega), if_neg c2, if_neg c3, if_pos c4]
    obtain ⟨v, hv2⟩ : ∃ v, at_ (c0 :: d1 :: d2 :: d3 :: t) 0 % 8 * 262144 + at_ (c0 :: d1 :: d2 :: d3 :: t) 1 % 64 * 4096 + at_ (c0 :: d1 :: d2 :: d3 :: t) 2 % 64 * 64 + at_ (c0 :: d1 :: d2 :: d3 :: t) 3 % 64 = v := ⟨_, rfl⟩
    rw [hv2, valid_iff]
    rw [at_zero, at_succ, at_zero, at_succ, at_succ, at_zero, at_succ, at_succ, at_succ, at_zero] at hv2
    by_cases hv : (decide (v ≥ 65536) && decide (isR (v : Int))) = true
    · right
      rw [if_pos hv]
      rw [Bool.and_eq_true, decide_eq_true_eq, decide_eq_true_eq] at hv
      refine ⟨(v : Int), hv.2, ?_, ?_⟩
      · rw [encB_four (by omega) (by omega) (by omega)]; simp
      · rw [encB_four (by omega) (by omega) (by omega), u8_of c0 _ (by omega), u8_of d1 _ (by omega), u8_of d2 _ (by omega), u8_of d3 _ (by omega)]
        rfl
    · left
      rw [if_neg hv]
  · left
    unfold decL
    rw [if_neg (by rw [at_zero]; omega), if_neg c2, if_neg c3, if_neg c4]
theorem go_dec (s : ByteArray) (pos : Nat) (h : pos < s.size) : Lib.decodeGo (s.extract pos s.size) = decL (s.data.toList.drop pos) := by
  have hx : (s.extract pos s.size).data.toList = s.data.toList.drop pos := by
    rw [Lib.extract_data, List.take_of_length_le (by rw [List.length_drop, Array.length_toList]; exact Nat.le_refl _)]
  have hs : (s.extract pos s.size).size = s.size - pos := by rw [show (s.extract pos s.size).size = (s.extract pos s.size).data.toList.length from rfl, hx, List.length_drop, Array.length_toList]; rfl
  unfold Lib.decodeGo
  rw [if_neg (by omega), decode_drop, List.drop_zero, hx]
theorem enc_not_bad (r : Int) (h : (65533, 1) = (r.toNat, (encB r).length)) : False := by
  have h1 := congrArg Prod.fst h
  have h2 := congrArg Prod.snd h
  simp only at h1 h2
  rw [encB_three (by omega) (by omega) (by omega)] at h2
  simp at h2
/-- Check, and the reference's, of any bytes. -/
theorem check_from (s : ByteArray) (hs : s.size ≤ 1000000) : ∀ (fuel pos k : Nat), s.size ≤ pos + fuel → pos ≤ s.size → fuel + 20 < k →
    chancelref1_Check.l0 k s pos = some (checkFrom s fuel pos) ∧ (checkFrom s fuel pos = 11 ∨ checkFrom s fuel pos = 0 ∧ ∃ rs, (∀ r ∈ rs, isR r) ∧ s.data.toList.drop pos = encA rs)
  | 0, pos, k, h1, h2, h3 => by
    obtain ⟨k, rfl⟩ : ∃ m, k = m + 1 := ⟨k - 1, by omega⟩
    rw [show checkFrom s 0 pos = 0 from rfl]
    refine ⟨?_, .inr ⟨rfl, [], by simp, ?_⟩⟩
    · simp only [chancelref1_Check.l0]
      rw [if_neg (by omega)]
    rw [List.drop_of_length_le (by rw [Array.length_toList]; show s.size ≤ pos; omega)]
    rfl
  | fuel + 1, pos, k, h1, h2, h3 => by
    obtain ⟨k, rfl⟩ : ∃ m, k = m + 1 := ⟨k - 1, by omega⟩
    simp only [chancelref1_Check.l0, checkFrom]
    by_cases hp : pos < s.size
    · have hlen : (s.data.toList.drop pos).length = s.size - pos := by rw [List.length_drop, Array.length_toList]; rfl
      rw [if_pos (by omega), if_pos hp, one_eq s pos k hp (by omega) (by omega), decode_drop, go_dec s pos hp]
      simp only [Option.bind_some]
      rcases dec_cases (s.data.toList.drop pos) (by intro e; rw [e] at hlen; simp at hlen; omega) with hd | ⟨r, hr, hd, hdr⟩
      · rw [oneL_err hd, hd]
        simp
      · have hn : ¬ ((65533 : Nat) = r.toNat ∧ (encB r).length = 1) := fun e => enc_not_bad r (by rw [← e.1, e.2])
        have hb := encB_pos r
        rw [oneL_ok hd (by omega), hd]
        simp only
        have hle := congrArg List.length hdr
        rw [List.length_append, hlen] at hle
        rw [if_neg (by omega), if_neg (by omega), show wrap64 ((pos : Int) + ((encB r).length : Int)) = ((pos + (encB r).length : Nat) : Int) by unfold wrap64; omega]
        obtain ⟨i1, i2⟩ := check_from s hs fuel (pos + (encB r).length) k (by omega) (by omega) (by omega)
        refine ⟨i1, i2.imp id fun ⟨e, rs, g, hh⟩ => ⟨e, r :: rs, ?_, ?_⟩⟩
        · intro x hx
          rcases List.mem_cons.1 hx with rfl | hx
          · exact hr
          · exact g x hx
        · rw [encA, ← hh, ← List.drop_drop]
          exact hdr
    · rw [if_neg (by omega), if_neg hp]
      refine ⟨rfl, .inr ⟨rfl, [], by simp, ?_⟩⟩
      rw [List.drop_of_length_le (by rw [Array.length_toList]; show s.size ≤ pos; omega)]
      rfl
theorem check_ref (s : ByteArray) (hs : s.size ≤ 1000000) (k : Nat) (hk : s.size + 20 < k) : chancelref1_Check.f k s = text_Check.f s := by
  unfold chancelref1_Check.f text_Check.f
  rw [if_pos (by omega)]
  exact (check_from s hs s.size 0 k (by omega) (by omega) hk).1
theorem check_cases (s : ByteArray) (hs : s.size ≤ 1000000) : text_Check.f s = some 11 ∨ text_Check.f s = some 0 ∧ ∃ rs, (∀ r ∈ rs, isR r) ∧ s = txt rs := by
  unfold text_Check.f
  rw [if_pos (by omega)]
  rcases (check_from s hs s.size 0 (s.size + 21) (by omega) (by omega) (by omega)).2 with h | ⟨h, rs, g, e⟩
  · exact .inl (by rw [h])
  · refine .inr ⟨by rw [h], rs, g, ?_⟩
    apply ByteArray.ext
    apply Array.toList_inj.1
    rw [List.drop_zero] at e
    exact e
theorem check_enc (s : ByteArray) : ∀ (rs : List Int) (pos fuel : Nat), (∀ r ∈ rs, isR r) → s.data.toList.drop pos = encA rs → checkFrom s fuel pos = 0
  | [], pos, fuel, _, hd => by
    refine text_Check.end_ s fuel pos ?_
    have := congrArg List.length hd
    rw [List.length_drop, Array.length_toList] at this
    simp only [encA, List.length_nil] at this
    show ¬ pos < s.data.size
    omega
  | r :: rs, pos, fuel, hr, hd => by
    cases fuel with
    | zero => rfl
    | succ fuel =>
    simp only [checkFrom]
    split
    · next hp =>
      have hdec := dec_enc r (hr r (by simp)) (encA rs)
      rw [decode_drop, go_dec s pos hp, hd, encA, hdec]
      simp only
      have hn : ¬ ((65533 : Nat) = r.toNat ∧ (encB r).length = 1) := fun e => enc_not_bad r (by rw [← e.1, e.2])
      have hb := encB_pos r
      rw [if_neg (by omega)]
      refine check_enc s rs _ fuel (fun x hx => hr x (by simp [hx])) ?_
      rw [← List.drop_drop, hd, encA, List.drop_left]
    · rfl
theorem check_txt (rs : List Int) (hr : ∀ r ∈ rs, isR r) (hl : rs.length < 4000000) : text_Check.f (txt rs) = some 0 := by
  unfold text_Check.f
  have := encA_len rs
  rw [txt_size, if_pos (by omega), check_enc (txt rs) rs 0 _ hr rfl]
/-! ### the text of any runes -/
theorem valid_rune (r : Int) (k : Nat) (hk : 1 ≤ k) : utf8_ValidRune.f k r = some (decide (isR r)) := by
  obtain ⟨k, rfl⟩ : ∃ m, k = m + 1 := ⟨k - 1, by omega⟩
  unfold utf8_ValidRune.f isR
  simp only [utf8_ValidRune.j0]
  by_cases h0 : 0 ≤ r
  · rw [if_pos h0]
    by_cases h2 : r < 55296
    · rw [if_pos (decide_eq_true h2)]; congr 1; symm; rw [decide_eq_true_eq]; omega
    · rw [if_neg (by rw [decide_eq_true_eq]; exact h2)]
      by_cases h3 : 57343 < r
      · rw [if_pos h3]
        by_cases h1 : r ≤ 1114111
        · rw [if_pos h1]; congr 1; symm; rw [decide_eq_true_eq]; omega
        · rw [if_neg h1]; congr 1; symm; rw [decide_eq_false_iff_not]; omega
      · rw [if_neg h3]; congr 1; symm; rw [decide_eq_false_iff_not]; omega
  · rw [if_neg h0, if_neg (by decide)]
    by_cases h3 : 57343 < r
    · omega
    · rw [if_neg h3]; congr 1; symm; rw [decide_eq_false_iff_not]; omega
theorem append_rune (l : List Int) (r : Int) (h : isR r) (hl : l.length < 140000000000000) : utf8_AppendRune.f l r = some (l ++ encZ r) := by
  obtain ⟨h0, h1, h2⟩ := h
  unfold utf8_AppendRune.f utf8_appendRuneNonASCII.f encZ
  by_cases c1 : r < 128
  · rw [if_pos (by omega), if_pos (by omega), if_pos c1, show r % 256 = r by omega]
  rw [if_neg (by omega), if_pos (by omega), if_neg c1]
  simp only [Option.bind_some]
  by_cases c2 : r < 2048
  · rw [if_pos c2, Lib.encodeRuneZ_two (by omega) (by omega)]
  rw [if_neg c2]
  by_cases c3 : r < 65536
  · rw [if_pos c3, Lib.encodeRuneZ_three (by omega)]
  · rw [if_neg c3, Lib.encodeRuneZ_four (by omega) (by omega)]
/-- What of runes comes: their text, or that it is none. -/
def ofL (acc rs : List Int) : ByteArray × Int := if rs.all (fun r => decide (isR r)) = true then (strOfNums (acc ++ encN rs), 0) else ((⟨#[]⟩ : ByteArray), 11)
theorem ofL_cons (acc : List Int) (r : Int) (rs : List Int) : ofL acc (r :: rs) = if decide (isR r) = true then ofL (acc ++ encZ r) rs else ((⟨#[]⟩ : ByteArray), 11) := by
  unfold ofL
  rw [List.all_cons, encN, List.append_assoc]
  by_cases h : isR r
  · rw [decide_eq_true h, Bool.true_and]
    rfl
  · rw [decide_eq_false h]
    rfl
theorem ofL_nil (acc : List Int) : ofL acc [] = (strOfNums acc, 0) := by unfold ofL; simp [encN]
theorem of_any_l0 (rs : List Int) (hl : rs.length < 1000000) (d : Nat) : ∀ (i k : Nat) (acc : List Int), rs.length - i = d → i ≤ rs.length → d < k → acc.length ≤ 4 * i →
    chancelref1_Of.l0 k rs acc i = some (ofL acc (rs.drop i)) := by
  induction d with
  | zero =>
    intro i k acc h1 h2 h3 h4
    obtain ⟨k, rfl⟩ : ∃ m, k = m + 1 := ⟨k - 1, by omega⟩
    simp only [chancelref1_Of.l0]
    rw [if_neg (by omega), List.drop_of_length_le (by omega), ofL_nil]
  | succ d ih =>
    intro i k acc h1 h2 h3 h4
    obtain ⟨k, rfl⟩ : ∃ m, k = m + 1 := ⟨k - 1, by omega⟩
    have hi : i < rs.length := by omega
    have hz := encZ_len (rs[i]'hi)
    simp only [chancelref1_Of.l0]
    rw [if_pos (by omega), if_pos (by omega), rd_at rs i hi, is_eq, List.drop_eq_getElem_cons hi, ofL_cons]
    simp only [Option.bind_some]
    by_cases hR : isR (rs[i]'hi)
    · rw [if_pos (decide_eq_true hR), if_pos (decide_eq_true hR), put_eq acc _ hR (by omega)]
      simp only [Option.bind_some]
      rw [show wrap64 ((i : Int) + 1) = ((i + 1 : Nat) : Int) by unfold wrap64; omega, ih (i + 1) k (acc ++ encZ (rs[i]'hi)) (by omega) (by omega) (by omega) (by rw [List.length_append]; omega)]
    · rw [if_neg (by rw [decide_eq_true_eq]; exact hR), if_neg (by rw [decide_eq_true_eq]; exact hR)]
theorem of_any (rs : List Int) (hl : rs.length < 1000000) (k : Nat) (hk : rs.length < k) : chancelref1_Of.f k rs = some (ofL [] rs) := by
  unfold chancelref1_Of.f
  have := of_any_l0 rs hl rs.length 0 k [] (by omega) (by omega) hk (by simp)
  rw [show ((0 : Nat) : Int) = 0 from rfl] at this
  rw [this, List.drop_zero]
theorem ofL_good (rs : List Int) (hr : ∀ r ∈ rs, isR r) : ofL [] rs = (txt rs, 0) := by
  unfold ofL
  rw [if_pos (List.all_eq_true.2 fun r h => decide_eq_true (hr r h)), List.nil_append, str_enc]
theorem ofL_cases (rs : List Int) : (∀ r ∈ rs, isR r) ∧ ofL [] rs = (txt rs, 0) ∨ ofL [] rs = ((⟨#[]⟩ : ByteArray), 11) := by
  by_cases h : ∀ r ∈ rs, isR r
  · exact .inl ⟨h, ofL_good rs h⟩
  · right
    unfold ofL
    rw [if_neg (fun e => h fun r hr => of_decide_eq_true (List.all_eq_true.1 e r hr))]
end Go.Proofs.YtaiegjgbdfmfpaaDoor.Pure
/-! A rune as it is quoted (where the print has no text.Quote). -/
namespace Go.Proofs.YtaiegjgbdfmfpaaDoor.Pure
open Go.RowKit Go.Proofs.YtaiegjgbdfmfpaaDoor.GL Go.Proofs.YtaiegjgbdfmfpaaDoor.HandL Go.Proofs.YtaiegjgbdfmfpaaDoorW.PrintWords Go.Proofs.YtaiegjgbdfmfpaaDoorW.PrintLast
def hexd : ByteArray := ⟨#[48, 49, 50, 51, 52, 53, 54, 55, 56, 57, 97, 98, 99, 100, 101, 102]⟩
def hx (u : Nat) : UInt8 := hexd.data.getD u 0
def hexL (u : Nat) : List UInt8 := if u < 16 then [hx u] else [hx (u / 16), hx (u % 16)]
def shownL (r : Int) : List UInt8 :=
  if r = 92 then [92, 92] else if r = 34 then [92, 34] else if r = 10 then [92, 110] else if r = 9 then [92, 116]
  else if r < 32 ∨ r = 127 then [92, 117, 123] ++ hexL r.toNat ++ [125] else (Utf8.encode r).data.toList
end Go.Proofs.YtaiegjgbdfmfpaaDoor.Pure
namespace Go.Proofs.YtaiegjgbdfmfpaaDoor.Pure
open Go.RowKit Go.Proofs.YtaiegjgbdfmfpaaDoor.GL Go.Proofs.YtaiegjgbdfmfpaaDoor.HandL Go.Proofs.YtaiegjgbdfmfpaaDoorW.PrintWords Go.Proofs.YtaiegjgbdfmfpaaDoorW.PrintLast
/-! ### quoted texts -/
theorem encode_nat (n : Nat) (h : Utf8.valid (n : Int) = true) : (Utf8.encode (n : Int)).data.toList =
    if n < 128 then [UInt8.ofNat n] else if n < 2048 then [UInt8.ofNat (192 + n / 64), UInt8.ofNat (128 + n % 64)] else if n < 65536 then [UInt8.ofNat (224 + n / 4096), UInt8.ofNat (128 + n / 64 % 64), UInt8.ofNat (128 + n % 64)]
    else [UInt8.ofNat (240 + n / 262144), UInt8.ofNat (128 + n / 4096 % 64), UInt8.ofNat (128 + n / 64 % 64), UInt8.ofNat (128 + n % 64)] := by
  have e : (if Utf8.valid (n : Int) then (n : Int).toNat else Utf8.runeError) = n := by rw [if_pos h]; omega
  unfold Utf8.encode
  simp only [e]
  split
  · rfl
  split
  · rfl
  split <;> rfl
theorem encode_eq (r : Int) (h : isR r) : (Utf8.encode r).data.toList = encB r := by
  have hv : Utf8.valid r = true := by
    unfold Utf8.valid
    obtain ⟨h0, h1, h2⟩ := h
    simp
    omega
  obtain ⟨h0, h1, h2⟩ := h
  obtain ⟨n, rfl⟩ : ∃ n : Nat, r = n := ⟨r.toNat, by omega⟩
  rw [encode_nat n hv]
  by_cases c1 : n < 128
  · rw [if_pos c1, encB_one (by omega), show ((n : Int)).toNat = n by omega]
  rw [if_neg c1]
  by_cases c2 : n < 2048
  · rw [if_pos c2, encB_two (by omega) (by omega), show (192 + (n : Int) / 64).toNat = 192 + n / 64 by omega, show (128 + (n : Int) % 64).toNat = 128 + n % 64 by omega]
  rw [if_neg c2]
  by_cases c3 : n < 65536
  · rw [if_pos c3, encB_three (by omega) (by omega) (by omega), show (224 + (n : Int) / 4096).toNat = 224 + n / 4096 by omega, show (128 + (n : Int) / 64 % 64).toNat = 128 + n / 64 % 64 by omega, show (128 + (n : Int) % 64).toNat = 128 + n % 64 by omega]
  · rw [if_neg c3, encB_four (by omega) (by omega) (by omega), show (240 + (n : Int) / 262144).toNat = 240 + n / 262144 by omega, show (128 + (n : Int) / 4096 % 64).toNat = 128 + n / 4096 % 64 by omega, show (128 + (n : Int) / 64 % 64).toNat = 128 + n / 64 % 64 by omega, show (128 + (n : Int) % 64).toNat = 128 + n % 64 by omega]
/-- Runes as they are quoted. -/
def showsL : List Int → List UInt8
  | [] => []
  | r :: l => shownL r ++ showsL l
theorem shows_app : ∀ a b, showsL (a ++ b) = showsL a ++ showsL b
  | [], _ => rfl
  | r :: l, b => by simp only [List.cons_append, showsL, shows_app l b, List.append_assoc]
theorem shown_len (r : Int) (h : isR r) : (shownL r).length ≤ 6 := by
  unfold shownL
  split
  · simp
  split
  · simp
  split
  · simp
  split
  · simp
  split
  · unfold hexL
    split <;> simp
  · rw [encode_eq r h]
    have := encB_pos r
    omega
theorem shows_len : ∀ rs : List Int, (∀ r ∈ rs, isR r) → (showsL rs).length ≤ 6 * rs.length
  | [], _ => by simp [showsL]
  | r :: rs, h => by
    have h1 := shown_len r (h r (by simp))
    have h2 := shows_len rs (fun x hx => h x (by simp [hx]))
    simp only [showsL, List.length_append, List.length_cons]
    omega
/-- A text of runes, quoted. -/
def qtd (rs : List Int) : ByteArray := ⟨(34 :: (showsL rs ++ [34])).toArray⟩
theorem qtd_data (rs : List Int) : (qtd rs).data.toList = 34 :: (showsL rs ++ [34]) := rfl
theorem qtd_size (rs : List Int) : (qtd rs).size = (showsL rs).length + 2 := by show (34 :: (showsL rs ++ [34])).toArray.size = _; simp
end Go.Proofs.YtaiegjgbdfmfpaaDoor.Pure
