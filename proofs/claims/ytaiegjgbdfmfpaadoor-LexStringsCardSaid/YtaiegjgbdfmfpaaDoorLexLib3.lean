import Derived.Test.YtaiegjgbdfmfpaaDoorLexLib2
/-! The kind of small things all laws of the chapter need. -/
namespace Go.Proofs.YtaiegjgbdfmfpaaDoor.Pure
open Go.RowKit Go.Proofs.YtaiegjgbdfmfpaaDoor.GL Go.Proofs.YtaiegjgbdfmfpaaDoor.HandL Go.Proofs.YtaiegjgbdfmfpaaDoorW.PrintWords Go.Proofs.YtaiegjgbdfmfpaaDoorW.PrintLast
theorem lxwithin_eq (a n : Int) (hn : 0 < n) (hn2 : n ≤ 1000000000) : ∃ r, chancellaw4_within.f a n = some r ∧ 0 ≤ r ∧ r < n := by
  unfold chancellaw4_within.f
  rw [if_neg (by omega)]
  have h1 : Int.tmod a n < n := Int.tmod_lt_of_pos a hn
  have h2 : -n < Int.tmod a n := by
    have := Int.neg_tmod (-a) n
    have h3 : Int.tmod (-a) n < n := Int.tmod_lt_of_pos (-a) hn
    rw [Int.neg_neg] at this
    omega
  by_cases h : Int.tmod a n < 0
  · rw [if_pos h]
    exact ⟨_, rfl, by unfold wrap64; omega, by unfold wrap64; omega⟩
  · rw [if_neg h]
    exact ⟨_, rfl, by omega, h1⟩
theorem over_stop_let (c : UInt8) (l : List UInt8) (hb : isBl c = false) (h47 : c ≠ 47) : Over (c :: l) 0 := by
  refine Over.stop c l hb ?_
  rw [beq_eq_false_iff_ne]
  intro e
  have e2 := congrArg List.head? e
  rw [List.head?_take, if_neg (by decide)] at e2
  exact h47 (Option.some.inj e2)
theorem let_stop (c : UInt8) (h : isLet c = true) : isBl c = false ∧ c ≠ 47 ∧ c ≠ 34 ∧ isFig c = false ∧ c.toNat < 128 := by
  have := (by decide +kernel : ∀ x : Fin 256, isLet (UInt8.ofNat x.val) = true → isBl (UInt8.ofNat x.val) = false ∧ UInt8.ofNat x.val ≠ 47 ∧ UInt8.ofNat x.val ≠ 34 ∧ isFig (UInt8.ofNat x.val) = false ∧ (UInt8.ofNat x.val).toNat < 128) ⟨c.toNat, c.toNat_lt⟩
  simp only [UInt8.ofNat_toNat] at this
  exact this h
theorem fig_stop (c : UInt8) (h : isFig c = true) : isBl c = false ∧ c ≠ 47 ∧ c ≠ 34 ∧ isLet c = false ∧ c.toNat < 128 := by
  have := (by decide +kernel : ∀ x : Fin 256, isFig (UInt8.ofNat x.val) = true → isBl (UInt8.ofNat x.val) = false ∧ UInt8.ofNat x.val ≠ 47 ∧ UInt8.ofNat x.val ≠ 34 ∧ isLet (UInt8.ofNat x.val) = false ∧ (UInt8.ofNat x.val).toNat < 128) ⟨c.toNat, c.toNat_lt⟩
  simp only [UInt8.ofNat_toNat] at this
  exact this h
theorem over_let (c : UInt8) (l : List UInt8) (h : isLet c = true) : Over (c :: l) 0 := over_stop_let c l (let_stop c h).1 (let_stop c h).2.1
theorem over_fig (c : UInt8) (l : List UInt8) (h : isFig c = true) : Over (c :: l) 0 := over_stop_let c l (fig_stop c h).1 (fig_stop c h).2.1
theorem blank_ends (c : UInt8) (h : isBl c = true) : (isLet c || isFig c) = false ∧ isFig c = false ∧ c ∉ ([58, 61, 38, 124, 62] : List UInt8) ∧ c.toNat < 128 ∧ c ≠ 34 := by
  have := (by decide +kernel : ∀ x : Fin 256, isBl (UInt8.ofNat x.val) = true → (isLet (UInt8.ofNat x.val) || isFig (UInt8.ofNat x.val)) = false ∧ isFig (UInt8.ofNat x.val) = false ∧ UInt8.ofNat x.val ∉ ([58, 61, 38, 124, 62] : List UInt8) ∧ (UInt8.ofNat x.val).toNat < 128 ∧ UInt8.ofNat x.val ≠ 34) ⟨c.toNat, c.toNat_lt⟩
  simp only [UInt8.ofNat_toNat] at this
  exact this h
/-- One name alone. -/
theorem lx_name (c : UInt8) (w : List UInt8) (hc : isLet c = true) (hw : (w.all fun c => isLet c || isFig c) = true) (hl : w.length < 12) (i : Nat) :
    Lx (c :: w) i [⟨1, (⟨(c :: w).toArray⟩ : ByteArray), 0, (i : Int)⟩] 0 := by
  have hn := next_name c w [] hc hw (fun _ _ h => by cases h)
  rw [List.append_nil, if_neg (by omega)] at hn
  refine Lx.tok (c :: w) i 1 _ 0 0 (w.length + 1) 0 (i + (w.length + 1) + 0) [] [] 0 (by simp) hn (by omega) (by simp) ?_ ?_ rfl (Lx.nil _)
  · rw [List.drop_of_length_le (by simp)]; exact Over.nil
  · exact List.drop_of_length_le (by simp)
theorem lxknown_true (k : Nat) (hk : 2000000 ≤ k) : chancellaw4_known.f k = some true := by
  have h1 : Lx [49] 3 [⟨2, (⟨#[]⟩ : ByteArray), 1, 3⟩] 0 := by
    refine Lx.tok [49] 3 2 _ 1 0 1 0 4 [] [] 0 (by simp) ?_ (by omega) (by simp) Over.nil rfl rfl (Lx.nil _)
    exact next_long 49 [] [] 1 0 (by decide) rfl (fun _ _ h => by cases h) (by decide +kernel)
  have h2 : Lx [45, 62, 49] 1 [⟨4, (⟨#[45, 62]⟩ : ByteArray), 0, 1⟩, ⟨2, (⟨#[]⟩ : ByteArray), 1, 3⟩] 0 := by
    refine Lx.tok [45, 62, 49] 1 4 _ 0 0 2 0 3 [49] _ 0 (by simp) ?_ (by omega) (by simp) (over_fig 49 [] (by decide)) rfl rfl h1
    exact next_sign 45 [62, 49] _ (by decide) (by decide) (by decide) (by decide +kernel)
  have h3 : Lx [97, 45, 62, 49] 0 [⟨1, (⟨#[97]⟩ : ByteArray), 0, 0⟩, ⟨4, (⟨#[45, 62]⟩ : ByteArray), 0, 1⟩, ⟨2, (⟨#[]⟩ : ByteArray), 1, 3⟩] 0 := by
    refine Lx.tok [97, 45, 62, 49] 0 1 _ 0 0 1 0 1 [45, 62, 49] _ 0 (by simp) ?_ (by omega) (by simp) (over_stop_let 45 _ (by decide) (by decide)) rfl rfl h2
    have hn := next_name 97 [] [45, 62, 49] (by decide) rfl (fun c t h => by injection h with h1 _; subst h1; decide)
    exact hn
  have ht := tokens_eq (⟨#[97, 45, 62, 49]⟩ : ByteArray) (by decide) (check_ascii _ (by decide) (by decide)) (over_let 97 _ (by decide)) h3 k hk
  unfold chancellaw4_known.f
  rw [ht, if_neg (by decide), if_pos rfl, Option.bind_some, if_pos (by rfl), if_pos (by rfl), if_pos (by decide), if_pos (by rw [Lib.toList_data]; rfl), if_pos (by decide), if_pos (by rw [Lib.toList_data]; rfl), if_pos (by decide)]
  rfl
end Go.Proofs.YtaiegjgbdfmfpaaDoor.Pure
