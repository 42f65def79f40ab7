import Derived.Test.YtapccgkkcgggiaaDoorKnownB
import Derived.Test.YtapccgkkcgggiaaDoorTextLibB3
namespace Go.Proofs.YtapccgkkcgggiaaDoor.Pure
open Go.RowKit Go.Proofs.YtapccgkkcgggiaaDoor.GB Go.Proofs.YtapccgkkcgggiaaDoor.HandB Go.Proofs.YtapccgkkcgggiaaDoorW.PrintWords Go.Proofs.YtapccgkkcgggiaaDoorW.PrintLast
theorem runes_j1 (l : List Int) (hl : l.length ≤ 500) (n : Nat) (hn : 4000000 ≤ n) : chancellaw1_TextRunes.j1 (n + 1) l = some true := by
  simp only [chancellaw1_TextRunes.j1]
  rw [text_of l (by omega) n (by omega), of_any l (by omega) n (by omega)]
  rcases ofL_cases l with ⟨hr, h⟩ | h
  · rw [h]
    simp only [Option.bind_some, if_true]
    rw [check_txt l hr (by omega), runes_txt l hr (by omega)]
    simp only [Option.bind_some, if_true]
    rw [same_eq l l (by omega) n (by omega)]
    simp
  · rw [h]
    simp
theorem TextRunes : chancellaw1_TextRunes.Pure := by
  intro a0 l1 _ _ _ _
  refine ⟨4002000, ?_⟩
  unfold chancellaw1_TextRunes.f
  rw [known_true _ (by omega)]
  simp only [Option.bind_some, if_true]
  by_cases h1 : (a0.size : Int) > 1000
  · rw [if_pos h1]
    simp only [chancellaw1_TextRunes.j0, if_true]
  rw [if_neg h1]
  by_cases h2 : (l1.length : Int) > 500
  · rw [decide_eq_true h2]
    simp only [chancellaw1_TextRunes.j0, if_true]
  rw [decide_eq_false h2]
  have hj := runes_j1 l1 (by omega) 4001998 (by omega)
  simp only [chancellaw1_TextRunes.j0, Bool.false_eq_true, if_false]
  rw [check_ref a0 (by omega) 4001999 (by omega), hj]
  rcases check_cases a0 (by omega) with h | ⟨h, rs, hr, rfl⟩
  · rw [h]
    simp
  · have z := encA_len rs
    rw [txt_size] at h1
    rw [h]
    simp only [Option.bind_some, if_true]
    rw [runes_txt rs hr (by omega), ref_runes_txt rs hr (by omega) 4001999 (by omega)]
    simp only [Option.bind_some]
    rw [text_of rs (by omega) 4001999 (by omega), ofL_good rs hr]
    simp only [Option.bind_some]
    rw [same_eq rs rs (by omega) 4001999 (by omega)]
    simp
end Go.Proofs.YtapccgkkcgggiaaDoor.Pure
