import Derived.Test.YtelibndkkokadaaGreatGB0
namespace Go.Proofs.YtelibndkkokadaaGreat.GP
open Go.RowKit Go.Proofs.YtelibndkkokadaaGreatW.PrintWords Go.Proofs.YtelibndkkokadaaGreatW.PrintLast Go.Proofs.YtelibndkkokadaaGreat.HandV Go.Proofs.YtelibndkkokadaaGreatW.PrintMore
open Go.Proofs.YtelibndkkokadaaGreat.GB
attribute [local go_sem] max2_int min2_int max_two min_two max_three min_three max_four min_four   -- for this text's walks alone
set_option linter.unusedVariables false
set_option linter.unusedSimpArgs false
/-- With enough rounds it answers, and of the answer P holds. -/
def Tot {α : Type} (g : Nat → Option α) (P : α → Prop) : Prop := ∃ r, Ev g r ∧ P r
namespace Tot
variable {α β : Type} {g f : Nat → Option α} {P Q : α → Prop} {R : β → Prop}
theorem now {r : α} (h : P r) : Tot (fun _ => some r) P := ⟨r, Ev.now r, h⟩
theorem const {x : Option α} {r : α} (hx : x = some r) (h : P r) : Tot (fun _ => x) P := ⟨r, ⟨0, fun _ _ => hx⟩, h⟩
theorem mono (h : Tot g P) (hp : ∀ r, P r → Q r) : Tot g Q := by obtain ⟨r, h1, h2⟩ := h; exact ⟨r, h1, hp r h2⟩
theorem bind {g : Nat → Option β} {f : Nat → β → Option α} (h : Tot g R) (k : ∀ a, R a → Tot (fun n => f n a) P) : Tot (fun n => (g n).bind (f n)) P := by
  obtain ⟨a, h1, h2⟩ := h
  obtain ⟨r, h3, h4⟩ := k a h2
  exact ⟨r, Ev.bind h1 h3, h4⟩
theorem step (h : ∀ k, g (k + 1) = f k) (t : Tot f P) : Tot g P := by obtain ⟨r, h1, h2⟩ := t; exact ⟨r, Ev.step h h1, h2⟩
theorem congr (h : ∀ k, g k = f k) (t : Tot f P) : Tot g P := by obtain ⟨r, h1, h2⟩ := t; exact ⟨r, Ev.congr h h1, h2⟩
theorem ite {c : Prop} [Decidable c] (h1 : c → Tot f P) (h2 : ¬ c → Tot g P) : Tot (fun k => if c then f k else g k) P := by
  by_cases h : c
  · exact congr (fun k => if_pos h) (h1 h)
  · exact congr (fun k => if_neg h) (h2 h)
theorem pos {c : Prop} [Decidable c] (h : c) (h1 : Tot f P) : Tot (fun k => if c then f k else g k) P := congr (fun k => if_pos h) h1
theorem neg {c : Prop} [Decidable c] (h : ¬ c) (h1 : Tot g P) : Tot (fun k => if c then f k else g k) P := congr (fun k => if_neg h) h1
theorem some_bind {x : β} {f : Nat → β → Option α} (h : Tot (fun n => f n x) P) : Tot (fun n => (some x).bind (f n)) P := h
end Tot
theorem wr_id {x : Int} (h1 : -9223372036854775808 ≤ x) (h2 : x ≤ 9223372036854775807) : wrap64 x = x := by unfold wrap64; omega
theorem wr_succ {n : Nat} (h : n < 9223372036854775807) : wrap64 ((n : Int) + 1) = ((n + 1 : Nat) : Int) := by unfold wrap64; omega
theorem tmod_gt (a m : Int) (hm : 0 < m) : -m < Int.tmod a m := by
  have h1 : (Int.tmod a m).natAbs = a.natAbs % m.natAbs := Int.natAbs_tmod a m
  have h2 := Nat.mod_lt a.natAbs (show 0 < m.natAbs by omega)
  omega
end Go.Proofs.YtelibndkkokadaaGreat.GP
