import Derived.Test.YtapccgkkcgggiaaDoorQuoteLibB
import Derived.Test.YtapccgkkcgggiaaDoorKnownB
import Derived.Test.YtapccgkkcgggiaaDoorGB12
namespace Go.Proofs.YtapccgkkcgggiaaDoor.Pure
open Go.RowKit Go.Proofs.YtapccgkkcgggiaaDoor.GB Go.Proofs.YtapccgkkcgggiaaDoor.HandB Go.Proofs.YtapccgkkcgggiaaDoorW.PrintWords Go.Proofs.YtapccgkkcgggiaaDoorW.PrintLast
theorem joins_j0 (a b : List Int) (ha : ∀ r ∈ a, isR r) (hb : ∀ r ∈ b, isR r) (hla : a.length ≤ 40) (hlb : b.length ≤ 40) (n : Nat) : chancellaw1_TextJoins.j0 (n + 1) (txt a) (txt b) false = some true := by
  simp only [chancellaw1_TextJoins.j0, Bool.false_eq_true, if_false]
  have hab : ∀ r ∈ a ++ b, isR r := fun r hr => (List.mem_append.1 hr).elim (ha r) (hb r)
  have z1 := encA_len a
  have z2 := encA_len b
  have l1 := shows_len a ha
  have l2 := shows_len b hb
  rw [quote_txt a ha (by omega), quote_txt b hb (by omega), txt_append, quote_txt _ hab (by rw [List.length_append]; omega)]
  simp only [Option.bind_some]
  have x1 : ((qtd a).extract 0 ((wrap64 (((qtd a).size : Int) - 1)) : Int).toNat).data.toList = 34 :: showsL a := by
    rw [Lib.extract_data, qtd_data, List.drop_zero, qtd_size, show ((wrap64 ((((showsL a).length + 2 : Nat) : Int) - 1)) : Int).toNat - 0 = (34 :: showsL a).length by unfold wrap64; simp; omega,
      show 34 :: (showsL a ++ [34]) = (34 :: showsL a) ++ [34] from rfl, List.take_left]
  have x2 : ((qtd b).extract 1 (qtd b).size).data.toList = showsL b ++ [34] := by
    rw [Lib.extract_data, qtd_data, qtd_size, List.take_of_length_le (by simp)]
    rfl
  have s1 : ((qtd a).extract 0 ((wrap64 (((qtd a).size : Int) - 1)) : Int).toNat).size = (showsL a).length + 1 := by
    rw [show ((qtd a).extract 0 ((wrap64 (((qtd a).size : Int) - 1)) : Int).toNat).size = ((qtd a).extract 0 ((wrap64 (((qtd a).size : Int) - 1)) : Int).toNat).data.toList.length from rfl, x1]
    rfl
  have s2 : ((qtd b).extract 1 (qtd b).size).size = (showsL b).length + 1 := by
    rw [show ((qtd b).extract 1 (qtd b).size).size = ((qtd b).extract 1 (qtd b).size).data.toList.length from rfl, x2]
    simp
  have q1 := qtd_size a
  have q2 := qtd_size b
  rw [txt_size, txt_size, if_pos (by omega), if_pos (by unfold wrap64; omega), if_pos (by unfold wrap64; omega), if_pos (by omega), if_pos (by omega)]
  rw [Lib.toList_data, Lib.toList_data, Go.Joins.data_append, x1, x2, qtd_data, shows_app]
  simp
theorem TextJoins : chancellaw1_TextJoins.Pure := by
  intro l0 l1 _ _ _ _ _ _
  suffices hs : ∀ n : Nat, 4000000 ≤ n → chancellaw1_TextJoins.f (n + 1) l0 l1 = some true from ⟨4000000 + 1, hs 4000000 (by omega)⟩
  intro n hn
  unfold chancellaw1_TextJoins.f
  rw [known_true _ (by omega)]
  simp only [Option.bind_some, if_true]
  obtain ⟨a, a1, a2, a3⟩ := law_of l0
  obtain ⟨b, b1, b2, b3⟩ := law_of l1
  have ha : ∀ r ∈ a, isR r := fun r hr => (some22_good r (a2 r hr)).1
  have hb : ∀ r ∈ b, isR r := fun r hr => (some22_good r (b2 r hr)).1
  have hab : ∀ r ∈ a ++ b, isR r := fun r hr => (List.mem_append.1 hr).elim (ha r) (hb r)
  have z1 := encA_len a
  have z2 := encA_len b
  have hl : (a ++ b).length = a.length + b.length := List.length_append
  rw [a3 (n + 1) (by omega), b3 (n + 1) (by omega)]
  simp only [Option.bind_some]
  rw [runes_txt a ha (by omega), runes_txt b hb (by omega)]
  simp only [Option.bind_some]
  rw [txt_size, txt_size, if_pos (by omega), txt_append, runes_txt _ hab (by omega), Option.bind_some]
  rw [if_pos (by rw [hl]; unfold wrap64; omega), if_pos (by omega), if_pos (by omega), show ((a.length : Nat) : Int).toNat = a.length by omega, List.take_left, List.drop_left, same_eq a a (by omega) _ (by omega), same_eq b b (by omega) _ (by omega), check_txt _ hab (by omega)]
  simp only [Option.bind_some, decide_true, if_true]
  rw [show ((0 : Int) != 0) = false from rfl]
  exact joins_j0 a b ha hb a1 b1 n
end Go.Proofs.YtapccgkkcgggiaaDoor.Pure
