import Derived.Test.YtaiegjgbdfmfpaaDoorLexBlankLib
import Derived.Test.YtaiegjgbdfmfpaaDoorGL15
/-! The pieces, one by one. -/
namespace Go.Proofs.YtaiegjgbdfmfpaaDoor.Pure
open Go.RowKit Go.Proofs.YtaiegjgbdfmfpaaDoor.GL Go.Proofs.YtaiegjgbdfmfpaaDoor.HandL Go.Proofs.YtaiegjgbdfmfpaaDoorW.PrintWords Go.Proofs.YtaiegjgbdfmfpaaDoorW.PrintLast
def table : List ByteArray := [(⟨#[97]⟩ : ByteArray), (⟨#[112, 101, 114, 109, 105, 116]⟩ : ByteArray), (⟨#[105, 102]⟩ : ByteArray), (⟨#[95, 120]⟩ : ByteArray), (⟨#[97, 98, 99, 100, 101, 102, 103, 104, 105, 106, 107, 108]⟩ : ByteArray), (⟨#[97, 98, 99, 100, 101, 102, 103, 104, 105, 106, 107, 108, 109]⟩ : ByteArray), (⟨#[48]⟩ : ByteArray), (⟨#[55]⟩ : ByteArray), (⟨#[57, 50, 50, 51, 51, 55, 50, 48, 51, 54, 56, 53, 52, 55, 55, 53, 56, 48, 55]⟩ : ByteArray), (⟨#[57, 50, 50, 51, 51, 55, 50, 48, 51, 54, 56, 53, 52, 55, 55, 53, 56, 48, 56]⟩ : ByteArray), (⟨#[48, 49]⟩ : ByteArray), (⟨#[58, 58]⟩ : ByteArray), (⟨#[61, 61]⟩ : ByteArray), (⟨#[33, 61]⟩ : ByteArray), (⟨#[60, 61]⟩ : ByteArray), (⟨#[62, 61]⟩ : ByteArray), (⟨#[38, 38]⟩ : ByteArray), (⟨#[124, 124]⟩ : ByteArray), (⟨#[45, 62]⟩ : ByteArray), (⟨#[40]⟩ : ByteArray), (⟨#[41]⟩ : ByteArray), (⟨#[123]⟩ : ByteArray), (⟨#[125]⟩ : ByteArray), (⟨#[91]⟩ : ByteArray), (⟨#[93]⟩ : ByteArray), (⟨#[44]⟩ : ByteArray), (⟨#[59]⟩ : ByteArray), (⟨#[58]⟩ : ByteArray), (⟨#[46]⟩ : ByteArray), (⟨#[60]⟩ : ByteArray), (⟨#[62]⟩ : ByteArray), (⟨#[33]⟩ : ByteArray), (⟨#[43]⟩ : ByteArray), (⟨#[45]⟩ : ByteArray), (⟨#[42]⟩ : ByteArray), (⟨#[61]⟩ : ByteArray), (⟨#[38]⟩ : ByteArray), (⟨#[124]⟩ : ByteArray), (⟨#[47]⟩ : ByteArray), (⟨#[64]⟩ : ByteArray), (⟨#[35]⟩ : ByteArray), (⟨#[57, 97]⟩ : ByteArray)]
theorem tok_yes {p : ByteArray} (h : (chancelref4_Tokens.f 300 p).isSome = true) (hp : Piece p.data.toList) : ∃ r, chancelref4_Tokens.f 300 p = some r ∧ (r.2 = 0 → Piece p.data.toList) := by
  obtain ⟨r, hr⟩ := Option.isSome_iff_exists.1 h
  exact ⟨r, hr, fun _ => hp⟩
theorem tok_no {p : ByteArray} (h : (chancelref4_Tokens.f 300 p).any (fun r => decide (r.2 ≠ 0)) = true) : ∃ r, chancelref4_Tokens.f 300 p = some r ∧ (r.2 = 0 → Piece p.data.toList) := by
  cases e : chancelref4_Tokens.f 300 p with
  | none => rw [e] at h; cases h
  | some r =>
    rw [e] at h
    have h2 : r.2 ≠ 0 := of_decide_eq_true h
    exact ⟨r, rfl, fun e => absurd e h2⟩
theorem table_cases : ∀ p ∈ table, ∃ r, chancelref4_Tokens.f 300 p = some r ∧ (r.2 = 0 → Piece p.data.toList) := by
  intro p hp
  unfold table at hp
  simp only [List.mem_cons, List.not_mem_nil, or_false] at hp
  rcases hp with rfl | rfl | rfl | rfl | rfl | rfl | rfl | rfl | rfl | rfl | rfl | rfl | rfl | rfl | rfl | rfl | rfl | rfl | rfl | rfl | rfl | rfl | rfl | rfl | rfl | rfl | rfl | rfl | rfl | rfl | rfl | rfl | rfl | rfl | rfl | rfl | rfl | rfl | rfl | rfl | rfl | rfl
  · exact tok_yes (by decide +kernel) (piece_name 97 [] (by decide) (by decide) (by decide))
  · exact tok_yes (by decide +kernel) (piece_name 112 [101, 114, 109, 105, 116] (by decide) (by decide) (by decide))
  · exact tok_yes (by decide +kernel) (piece_name 105 [102] (by decide) (by decide) (by decide))
  · exact tok_yes (by decide +kernel) (piece_name 95 [120] (by decide) (by decide) (by decide))
  · exact tok_yes (by decide +kernel) (piece_name 97 [98, 99, 100, 101, 102, 103, 104, 105, 106, 107, 108] (by decide) (by decide) (by decide))
  · exact tok_no (by decide +kernel)
  · exact tok_yes (by decide +kernel) (piece_num 48 [] 0 (by decide) (by decide) (by decide +kernel))
  · exact tok_yes (by decide +kernel) (piece_num 55 [] 7 (by decide) (by decide) (by decide +kernel))
  · exact tok_yes (by decide +kernel) (piece_num 57 [50, 50, 51, 51, 55, 50, 48, 51, 54, 56, 53, 52, 55, 55, 53, 56, 48, 55] 9223372036854775807 (by decide) (by decide) (by decide +kernel))
  · exact tok_no (by decide +kernel)
  · exact tok_no (by decide +kernel)
  · exact tok_yes (by decide +kernel) (piece_pair 58 58 (by decide) (by decide) (by decide) (by decide) (by decide) (by decide) (by decide) (fun _ => rfl))
  · exact tok_yes (by decide +kernel) (piece_pair 61 61 (by decide) (by decide) (by decide) (by decide) (by decide) (by decide) (by decide) (fun _ => rfl))
  · exact tok_yes (by decide +kernel) (piece_pair 33 61 (by decide) (by decide) (by decide) (by decide) (by decide) (by decide) (by decide) (fun _ => rfl))
  · exact tok_yes (by decide +kernel) (piece_pair 60 61 (by decide) (by decide) (by decide) (by decide) (by decide) (by decide) (by decide) (fun _ => rfl))
  · exact tok_yes (by decide +kernel) (piece_pair 62 61 (by decide) (by decide) (by decide) (by decide) (by decide) (by decide) (by decide) (fun _ => rfl))
  · exact tok_yes (by decide +kernel) (piece_pair 38 38 (by decide) (by decide) (by decide) (by decide) (by decide) (by decide) (by decide) (fun _ => rfl))
  · exact tok_yes (by decide +kernel) (piece_pair 124 124 (by decide) (by decide) (by decide) (by decide) (by decide) (by decide) (by decide) (fun _ => rfl))
  · exact tok_yes (by decide +kernel) (piece_pair 45 62 (by decide) (by decide) (by decide) (by decide) (by decide) (by decide) (by decide) (fun _ => rfl))
  · exact tok_yes (by decide +kernel) (piece_single 40 (by decide))
  · exact tok_yes (by decide +kernel) (piece_single 41 (by decide))
  · exact tok_yes (by decide +kernel) (piece_single 123 (by decide))
  · exact tok_yes (by decide +kernel) (piece_single 125 (by decide))
  · exact tok_yes (by decide +kernel) (piece_single 91 (by decide))
  · exact tok_yes (by decide +kernel) (piece_single 93 (by decide))
  · exact tok_yes (by decide +kernel) (piece_single 44 (by decide))
  · exact tok_yes (by decide +kernel) (piece_single 59 (by decide))
  · exact tok_yes (by decide +kernel) (piece_single 58 (by decide))
  · exact tok_yes (by decide +kernel) (piece_single 46 (by decide))
  · exact tok_yes (by decide +kernel) (piece_single 60 (by decide))
  · exact tok_yes (by decide +kernel) (piece_single 62 (by decide))
  · exact tok_yes (by decide +kernel) (piece_single 33 (by decide))
  · exact tok_yes (by decide +kernel) (piece_single 43 (by decide))
  · exact tok_yes (by decide +kernel) (piece_single 45 (by decide))
  · exact tok_yes (by decide +kernel) (piece_single 42 (by decide))
  · exact tok_no (by decide +kernel)
  · exact tok_no (by decide +kernel)
  · exact tok_no (by decide +kernel)
  · exact tok_no (by decide +kernel)
  · exact tok_no (by decide +kernel)
  · exact tok_no (by decide +kernel)
  · exact tok_yes (by decide +kernel) piece_9a
end Go.Proofs.YtaiegjgbdfmfpaaDoor.Pure
