import Derived.Test.YtapccgkkcgggiaaDoorKnownA
import Derived.Test.YtapccgkkcgggiaaDoorGA4
namespace Go.Proofs.YtapccgkkcgggiaaDoor.Pure
open Go.RowKit Go.Proofs.YtapccgkkcgggiaaDoor.GA Go.Proofs.YtapccgkkcgggiaaDoor.HandA Go.Proofs.YtapccgkkcgggiaaDoorW.PrintWords Go.Proofs.YtapccgkkcgggiaaDoorW.PrintLast
theorem ref_loops (k : Nat) : (∀ a p i j s f, chancelref1_Like.l0 k a p i j s f = text_Like.l0 k a p i j s f) ∧ (∀ a p i j s f b, chancelref1_Like.j1 k a p i j s f b = text_Like.j1 k a p i j s f b) ∧ (∀ a p i j s f b, chancelref1_Like.j2 k a p i j s f b = text_Like.j2 k a p i j s f b) ∧ (∀ p j, chancelref1_Like.l1 k p j = text_Like.l1 k p j) := by
  induction k with
  | zero => exact ⟨fun _ _ _ _ _ _ => by rw [chancelref1_Like.l0, text_Like.l0], fun _ _ _ _ _ _ _ => by rw [chancelref1_Like.j1, text_Like.j1], fun _ _ _ _ _ _ _ => by rw [chancelref1_Like.j2, text_Like.j2], fun _ _ => by rw [chancelref1_Like.l1, text_Like.l1]⟩
  | succ k ih =>
    obtain ⟨h0, h1, h2, h3⟩ := ih
    refine ⟨fun a p i j s f => ?_, fun a p i j s f b => ?_, fun a p i j s f b => ?_, fun p j => ?_⟩
    · rw [chancelref1_Like.l0, text_Like.l0]; simp only [h1, h3]
    · rw [chancelref1_Like.j1, text_Like.j1]; simp only [h0, h2]
    · rw [chancelref1_Like.j2, text_Like.j2]; simp only [h0]
    · rw [chancelref1_Like.l1, text_Like.l1]; simp only [h3]
theorem ref_like_eq (a p : List Int) (ha : ∀ r ∈ a, isR r) (hp : ∀ r ∈ p, isR r) (hl : a.length ≤ 100) (hq : p.length ≤ 100) (n : Nat) (hn : 4000000 ≤ n) : chancelref1_Like.f n (txt a) (txt p) = some (likes p a) := by
  have h := like_eq a p ha hp hl hq n hn
  unfold text_Like.f at h
  unfold chancelref1_Like.f
  rw [runes_txt a ha (by omega), runes_txt p hp (by omega)] at h
  rw [ref_runes_txt a ha (by omega) n (by omega), ref_runes_txt p hp (by omega) n (by omega)]
  simp only [Option.bind_some] at h ⊢
  rw [(ref_loops n).1]
  exact h
theorem TextLike : chancellaw1_TextLike.Pure := by
  intro l0 l1 _ _ _ _ _ _
  refine ⟨4000000, ?_⟩
  obtain ⟨a, a1, a2, a3⟩ := law_of l0
  obtain ⟨p, p1, p2, p3⟩ := law_of l1
  have ha : ∀ r ∈ a, isR r := fun r hr => (some22_good r (a2 r hr)).1
  have hp : ∀ r ∈ p, isR r := fun r hr => (some22_good r (p2 r hr)).1
  unfold chancellaw1_TextLike.f
  rw [known_true _ (Nat.le_refl _), a3 4000000 (by omega), p3 4000000 (by omega)]
  simp only [Option.bind_some, if_true]
  rw [like_eq a p ha hp (by omega) (by omega) _ (Nat.le_refl _), ref_like_eq a p ha hp (by omega) (by omega) _ (Nat.le_refl _)]
  simp
end Go.Proofs.YtapccgkkcgggiaaDoor.Pure
