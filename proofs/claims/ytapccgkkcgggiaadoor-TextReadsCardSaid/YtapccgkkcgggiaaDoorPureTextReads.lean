import Derived.Test.YtapccgkkcgggiaaDoorReadLibB4
import Derived.Test.YtapccgkkcgggiaaDoorKnownB
namespace Go.Proofs.YtapccgkkcgggiaaDoor.Pure
open Go.RowKit Go.Proofs.YtapccgkkcgggiaaDoor.GB Go.Proofs.YtapccgkkcgggiaaDoor.HandB Go.Proofs.YtapccgkkcgggiaaDoorW.PrintWords Go.Proofs.YtapccgkkcgggiaaDoorW.PrintLast
theorem reads_step (s : ByteArray) (hs : s.size ≤ 1001) (i k : Nat) (hi : i < 2) (hk : 10000 ≤ k) : chancellaw1_TextReads.l0 (k + 1) s i = chancellaw1_TextReads.l0 k ((⟨#[34]⟩ : ByteArray) ++ s) ((i + 1 : Nat) : Int) := by
  rw [chancellaw1_TextReads.l0, if_pos (by omega), text_read_eq s (by omega) k (by omega), Option.bind_some, ref_read_eq s (by omega) k (by omega), Option.bind_some, if_pos rfl, if_pos rfl, if_pos rfl, if_pos (by omega), wrap_next i (by omega)]
theorem quoted_size (s : ByteArray) : ((⟨#[34]⟩ : ByteArray) ++ s).size = s.size + 1 := by rw [ByteArray.size_append, Nat.add_comm]; rfl
theorem TextReads : chancellaw1_TextReads.Pure := by
  intro a0 _
  suffices hs : ∀ n : Nat, 4000000 ≤ n → chancellaw1_TextReads.f (n + 3) a0 = some true from ⟨4000000 + 3, hs 4000000 (by omega)⟩
  intro n hn
  unfold chancellaw1_TextReads.f
  rw [known_true _ (by omega), Option.bind_some, if_pos rfl]
  by_cases c : (a0.size : Int) > 1000
  · rw [if_pos c]
  rw [if_neg c]
  have h1 := reads_step a0 (by omega) 0 (n + 2) (by omega) (by omega)
  rw [show ((0 : Nat) : Int) = 0 from rfl] at h1
  rw [show n + 3 = n + 2 + 1 from rfl, h1, reads_step _ (by rw [quoted_size]; omega) 1 (n + 1) (by omega) (by omega), chancellaw1_TextReads.l0, if_neg (by omega)]
end Go.Proofs.YtapccgkkcgggiaaDoor.Pure
