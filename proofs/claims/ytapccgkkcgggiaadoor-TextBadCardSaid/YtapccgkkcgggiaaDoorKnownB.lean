import Derived.Test.YtapccgkkcgggiaaDoorLikeLibB
namespace Go.Proofs.YtapccgkkcgggiaaDoor.Pure
open Go.RowKit Go.Proofs.YtapccgkkcgggiaaDoor.GB Go.Proofs.YtapccgkkcgggiaaDoor.HandB Go.Proofs.YtapccgkkcgggiaaDoorW.PrintWords Go.Proofs.YtapccgkkcgggiaaDoorW.PrintLast
theorem known_true (n : Nat) (hn : 4000000 ≤ n) : chancellaw1_known.f n = some true := by
  unfold chancellaw1_known.f
  have e1 : (⟨#[97, 98, 99, 97, 98]⟩ : ByteArray) = txt [97, 98, 99, 97, 98] := by decide +kernel
  have e2 : (⟨#[97, 42, 98]⟩ : ByteArray) = txt [97, 42, 98] := by decide +kernel
  have e3 : (⟨#[97, 98, 99, 97]⟩ : ByteArray) = txt [97, 98, 99, 97] := by decide +kernel
  have l1 : likes [97, 42, 98] [97, 98, 99, 97, 98] = true := by decide +kernel
  have l2 : likes [97, 42, 98] [97, 98, 99, 97] = false := by decide +kernel
  have q : text_Quote.f (⟨#[7]⟩ : ByteArray) = some ⟨#[34, 92, 117, 123, 55, 125, 34]⟩ := by decide +kernel
  rw [e1, e2, e3, like_eq _ _ (by decide) (by decide) (by decide) (by decide) n hn, like_eq _ _ (by decide) (by decide) (by decide) (by decide) n hn, l1, l2, q]
  decide +kernel
end Go.Proofs.YtapccgkkcgggiaaDoor.Pure
