import Derived.Test.YtaiegjgbdfmfpaaDoorLexTable
import Derived.Test.YtaiegjgbdfmfpaaDoorReadAll
import Derived.Test.YtaiegjgbdfmfpaaDoorGL16
/-! LexBlanks: blanks and remarks between tokens change nothing but places. -/
namespace Go.Proofs.YtaiegjgbdfmfpaaDoor.Pure
open Go.RowKit Go.Proofs.YtaiegjgbdfmfpaaDoor.GL Go.Proofs.YtaiegjgbdfmfpaaDoor.HandL Go.Proofs.YtaiegjgbdfmfpaaDoorW.PrintWords Go.Proofs.YtaiegjgbdfmfpaaDoorW.PrintLast
theorem tokens_up {p : ByteArray} {r : List S49 × Int} (h : chancelref4_Tokens.f 300 p = some r) (m : Nat) : chancelref4_Tokens.f (300 + m) p = some r := by
  induction m with
  | zero => exact h
  | succ m ih => exact chancelref4_Tokens.mono p (300 + m) r ih
theorem table_size : ∀ p ∈ table, p.size ≤ 20 := by decide
theorem rd_mem (xs : List ByteArray) (n : Nat) (h : n < xs.length) : rdOf ByteArray.empty xs (n : Int) ∈ xs := by
  unfold rdOf
  rw [Int.toNat_natCast, List.getD_eq_getElem?_getD, List.getElem?_eq_getElem h]
  exact List.getElem_mem h
theorem piece_any (a : Int) (r : List Int) (k : Nat) (hk : 3000000 ≤ k) : ∃ t, chancellaw4_piece.f k a r = some t ∧ t.size ≤ 250 ∧ ∃ x, chancelref4_Tokens.f k t = some x ∧ (x.2 = 0 → Piece t.data.toList) := by
  have e : chancellaw4_piece.f k a r = ((chancellaw4_within.f a (wrap64 ((table.length : Int) + 8))).bind fun t237 => (if t237 ≥ (table.length : Int) then ((chancellaw1_Of.f k r).bind fun t238 => ((chancelref1_Quote.f k t238).bind fun t239 => (some t239))) else (if 0 ≤ t237 then (if t237 < (table.length : Int) then (some (rdOf ByteArray.empty table t237)) else (none)) else (none)))) := rfl
  have hw : wrap64 ((table.length : Int) + 8) = 50 := by
    have : table.length = 42 := rfl
    unfold wrap64
    omega
  rw [e, hw]
  obtain ⟨i, e1, i0, i1⟩ := lxwithin_eq a 50 (by omega) (by omega)
  rw [e1, Option.bind_some]
  by_cases h : i ≥ (table.length : Int)
  · rw [if_pos h]
    obtain ⟨rs, g1, g2, g3⟩ := law_of r
    have hr : ∀ r ∈ rs, isR r := fun r hr => (some22_good r (g2 r hr)).1
    have hsl := shows_len rs hr
    obtain ⟨x, hx1, hx2⟩ := ref_str rs hr g1 k (by omega)
    rw [g3 k (by omega), Option.bind_some, refq_txt rs hr (by omega) k (by omega), Option.bind_some]
    exact ⟨_, rfl, by rw [qtd_size]; omega, x, hx1, fun h0 => by rw [qtd_data]; exact piece_str rs hr (hx2 h0)⟩
  · obtain ⟨n, rfl⟩ : ∃ n : Nat, i = n := ⟨i.toNat, by omega⟩
    have hm := rd_mem table n (by omega)
    obtain ⟨x, hx1, hx2⟩ := table_cases _ hm
    have hz := table_size _ hm
    obtain ⟨m, rfl⟩ : ∃ m, k = 300 + m := ⟨k - 300, by omega⟩
    rw [if_neg h, if_pos i0, if_pos (by omega)]
    exact ⟨_, rfl, by omega, x, tokens_up hx1 m, hx2⟩
def gaps : List ByteArray := [(⟨#[]⟩ : ByteArray), (⟨#[32, 32]⟩ : ByteArray), (⟨#[47, 47, 32, 97, 32, 114, 101, 109, 97, 114, 107, 10]⟩ : ByteArray), (⟨#[9, 13, 10]⟩ : ByteArray), (⟨#[47, 47, 10, 47, 47, 10]⟩ : ByteArray)]
def Gap (g : List UInt8) : Prop := Tx g ∧ ∀ l n, Over l n → Over (g ++ l) (g.length + n)
theorem gap_cases : ∀ g ∈ gaps, Gap g.data.toList ∧ g.size ≤ 12 := by
  intro g hg
  unfold gaps at hg
  simp only [List.mem_cons, List.not_mem_nil, or_false] at hg
  rcases hg with rfl | rfl | rfl | rfl | rfl <;> refine ⟨⟨tx_ascii _ (by decide), fun l n h => ?_⟩, by decide⟩
  · show Over l (0 + n)
    rw [Nat.zero_add]
    exact h
  · show Over (32 :: 32 :: l) (2 + n)
    rw [Nat.add_comm]
    exact Over.blank 32 _ (n + 1) (by decide) (Over.blank 32 l n (by decide) h)
  · show Over (47 :: 47 :: [32, 97, 32, 114, 101, 109, 97, 114, 107] ++ 10 :: l) (12 + n)
    rw [show 12 + n = 2 + ([32, 97, 32, 114, 101, 109, 97, 114, 107] : List UInt8).length + (n + 1) by simp only [List.length_cons, List.length_nil]; omega]
    exact Over.remark _ l (n + 1) (by decide) (Over.blank 10 l n (by decide) h)
  · show Over (9 :: 13 :: 10 :: l) (3 + n)
    rw [Nat.add_comm]
    exact Over.blank 9 _ (n + 2) (by decide) (Over.blank 13 _ (n + 1) (by decide) (Over.blank 10 l n (by decide) h))
  · show Over (47 :: 47 :: [] ++ 10 :: (47 :: 47 :: [] ++ 10 :: l)) (6 + n)
    have h1 : Over (47 :: 47 :: [] ++ 10 :: l) (2 + ([] : List UInt8).length + (n + 1)) := Over.remark [] l (n + 1) (by decide) (Over.blank 10 l n (by decide) h)
    rw [show 6 + n = 2 + ([] : List UInt8).length + ((2 + ([] : List UInt8).length + (n + 1)) + 1) by simp only [List.length_nil]; omega]
    exact Over.remark [] _ _ (by decide) (Over.blank 10 _ _ (by decide) h1)
def joinA : List (List UInt8 × List UInt8) → List UInt8
  | [] => []
  | p :: ps => p.1 ++ 32 :: joinA ps
def joinB : List (List UInt8 × List UInt8) → List UInt8
  | [] => []
  | p :: ps => p.1 ++ 10 :: (p.2 ++ joinB ps)
theorem joinA_snoc : ∀ ps p g, joinA (ps ++ [(p, g)]) = joinA ps ++ p ++ [32]
  | [], p, g => by simp [joinA]
  | q :: ps, p, g => by simp [joinA, joinA_snoc ps p g]
theorem joinB_snoc : ∀ ps p g, joinB (ps ++ [(p, g)]) = joinB ps ++ p ++ [10] ++ g
  | [], p, g => by simp [joinB]
  | q :: ps, p, g => by simp [joinB, joinB_snoc ps p g]
abbrev Fine (ps : List (List UInt8 × List UInt8)) : Prop := ∀ p ∈ ps, Piece p.1 ∧ Gap p.2
theorem join_tx : ∀ ps, Fine ps → Tx (joinA ps) ∧ Tx (joinB ps)
  | [], _ => ⟨tx_nil, tx_nil⟩
  | p :: ps, h => by
    have h1 := h p List.mem_cons_self
    have ih := join_tx ps fun q hq => h q (List.mem_cons_of_mem _ hq)
    exact ⟨tx_app h1.1.tx (tx_app (a := [32]) (tx_ascii _ (by decide)) ih.1), tx_app h1.1.tx (tx_app (a := [10]) (tx_ascii _ (by decide)) (tx_app h1.2.1 ih.2))⟩
theorem join_over (ps) (h : Fine ps) : Over (joinA ps) 0 ∧ Over (joinB ps) 0 := by
  cases ps with
  | nil => exact ⟨Over.nil, Over.nil⟩
  | cons p ps =>
    have h1 := h p List.mem_cons_self
    exact ⟨h1.1.ov _, h1.1.ov _⟩
/-- What of a token stays. -/
def tkey (x : S35) : Int × ByteArray × Int := (x.f0, x.f1, x.f2)
theorem chain : ∀ ps, Fine ps → ∀ i j : Nat, ∃ ta tb, Lx (joinA ps) i ta 0 ∧ Lx (joinB ps) j tb 0 ∧ ta.map tkey = tb.map tkey ∧ tb.Pairwise (fun a b => a.f3 < b.f3) ∧ (∀ x ∈ tb, (j : Int) ≤ x.f3) ∧ tb.length ≤ 2 * ps.length
  | [], _, i, j => ⟨[], [], Lx.nil i, Lx.nil j, rfl, List.Pairwise.nil, fun _ h => (by cases h), by simp⟩
  | (p, g) :: ps, h, i, j => by
    have h1 := h (p, g) List.mem_cons_self
    have hr : Fine ps := fun q hq => h q (List.mem_cons_of_mem _ hq)
    obtain ⟨q, q1, q2, q3, q4⟩ := h1.1.tk
    obtain ⟨ta, tb, ih1, ih2, ih3, ih4, ih5, ih6⟩ := chain ps hr (i + p.length + 1) (j + p.length + (g.length + 0 + 1))
    have hov := join_over ps hr
    refine ⟨q.map (tokAt i) ++ ta, q.map (tokAt j) ++ tb, ?_, ?_, ?_, ?_, ?_, ?_⟩
    · exact q4 32 (joinA ps) (joinA ps) i 1 _ ta (by decide) (Over.blank 32 _ 0 (by decide) hov.1) rfl rfl ih1
    · refine q4 10 (g ++ joinB ps) (joinB ps) j (g.length + 0 + 1) _ tb (by decide) (Over.blank 10 _ _ (by decide) (h1.2.2 _ 0 hov.2)) ?_ rfl ih2
      rw [List.drop_succ_cons, List.drop_left' rfl]
    · rw [List.map_append, List.map_append, ih3, List.map_map, List.map_map]
      rfl
    · rw [List.pairwise_append]
      refine ⟨?_, ih4, ?_⟩
      · rw [List.pairwise_map]
        exact q2.imp fun {a b} hab => by show ((j + a.2.2.2 : Nat) : Int) < ((j + b.2.2.2 : Nat) : Int); omega
      · intro a ha b hb
        obtain ⟨x, hx, rfl⟩ := List.mem_map.1 ha
        have h3 := q3 x hx
        have h5 := ih5 b hb
        show ((j + x.2.2.2 : Nat) : Int) < b.f3
        have : p.length = (p, g).1.length := rfl
        omega
    · intro x hx
      rcases List.mem_append.1 hx with hx | hx
      · obtain ⟨y, hy, rfl⟩ := List.mem_map.1 hx
        show (j : Int) ≤ ((j + y.2.2.2 : Nat) : Int)
        omega
      · have := ih5 x hx
        omega
    · rw [List.length_append, List.length_map, List.length_cons]
      omega
theorem rd_t (xs : List S35) (i : Nat) (h : i < xs.length) : rd_T35 xs (i : Int) = xs[i]'h := by
  unfold rd_T35
  rw [Int.toNat_natCast, List.getD_eq_getElem?_getD, List.getElem?_eq_getElem h]
  rfl
theorem cmp_l1 (x y : List S35) (hk : x.map tkey = y.map tkey) (hp : y.Pairwise (fun a b => a.f3 < b.f3)) (hl : y.length ≤ 1000) (d : Nat) : ∀ i k, y.length - i = d → i ≤ y.length → d < k → chancellaw4_LexBlanks.l1 k x y (i : Int) = some true := by
  have hxy : x.length = y.length := by have := congrArg List.length hk; rwa [List.length_map, List.length_map] at this
  induction d with
  | zero =>
    intro i k h1 h2 h3
    obtain ⟨k, rfl⟩ : ∃ m, k = m + 1 := ⟨k - 1, by omega⟩
    rw [chancellaw4_LexBlanks.l1, if_neg (by omega)]
  | succ d ih =>
    intro i k h1 h2 h3
    obtain ⟨k, rfl⟩ : ∃ m, k = m + 1 := ⟨k - 1, by omega⟩
    have hi : i < y.length := by omega
    have hix : i < x.length := by omega
    have hkey : tkey (x[i]'hix) = tkey (y[i]'hi) := by
      have h1 : (x.map tkey)[i]'(by rw [List.length_map]; exact hix) = (y.map tkey)[i]'(by rw [List.length_map]; exact hi) := by simp only [hk]
      rwa [List.getElem_map, List.getElem_map] at h1
    unfold tkey at hkey
    injection hkey with k1 hkey
    injection hkey with k2 k3
    rw [chancellaw4_LexBlanks.l1, if_pos (by omega), if_pos (by omega), if_pos (by omega), rd_t x i hix, rd_t y i hi, if_pos k1, if_pos (by rw [k2]), if_pos k3, lx_next i (by omega), ih (i + 1) k (by omega) (by omega) (by omega)]
    by_cases h0 : (i : Int) > 0
    · have hw : wrap64 ((i : Int) - 1) = ((i - 1 : Nat) : Int) := by unfold wrap64; omega
      have hlt := List.pairwise_iff_getElem.1 hp (i - 1) i (by omega) hi (by omega)
      rw [if_pos h0, hw, if_pos (by omega), if_pos (by omega), rd_t y (i - 1) (by omega), if_neg (by omega)]
    · rw [if_neg h0]
theorem blanks_end (l r gs : List Int) (a b : ByteArray) (i : Int) (ps : List (List UInt8 × List UInt8)) (hf : Fine ps) (hlen : ps.length ≤ 25) (ha : a.data.toList = joinA ps) (hb : b.data.toList = joinB ps) (k : Nat) (hk : 3000000 ≤ k) :
    chancellaw4_LexBlanks.j1 (k + 4) l r gs a b i false = some true := by
  rw [chancellaw4_LexBlanks.j1, if_neg (by decide)]
  have fin : ∀ x8 : Bool, (x8 = false → a.size ≤ 600 ∧ b.size ≤ 600) → chancellaw4_LexBlanks.j2 (k + 3) a b x8 = some true := by
    intro x8 hx8
    rw [chancellaw4_LexBlanks.j2]
    cases x8 with
    | true => rw [if_pos rfl]
    | false =>
      obtain ⟨sa, sb⟩ := hx8 rfl
      obtain ⟨ta, tb, c1, c2, c3, c4, c5, c6⟩ := chain ps hf 0 0
      have hlab : ta.length = tb.length := by have := congrArg List.length c3; rwa [List.length_map, List.length_map] at this
      have hov := join_over ps hf
      have htx := join_tx ps hf
      have t1 := tokens_eq a sa (tx_check a (by rw [ha]; exact htx.1) (by omega)) (o := 0) (by rw [ha]; exact hov.1) (by rw [ha]; exact c1) (k + 2) (by omega)
      have t2 := tokens_eq b sb (tx_check b (by rw [hb]; exact htx.2) (by omega)) (o := 0) (by rw [hb]; exact hov.2) (by rw [hb]; exact c2) (k + 2) (by omega)
      rw [if_neg (by omega), if_pos rfl] at t1 t2
      rw [if_neg (by decide), t1, Option.bind_some, t2, Option.bind_some, if_pos rfl, if_pos rfl, chancellaw4_LexBlanks.j3, if_neg (by
        show ¬ (((ta.length : Int) != (tb.length : Int)) = true)
        rw [hlab, bne_self_eq_false]
        decide)]
      exact cmp_l1 ta tb c3 c4 (by omega) tb.length 0 (k + 1) rfl (Nat.zero_le _) (by omega)
  by_cases s1 : (a.size : Int) > 600
  · rw [if_pos s1]
    exact fin true (fun h => by cases h)
  · rw [if_neg s1]
    refine fin _ fun h => ?_
    have := of_decide_eq_false h
    exact ⟨by omega, by omega⟩
theorem size_step {a t g A i : Nat} (h : a ≤ 300 * i) (ht : t ≤ 250) (hg : g ≤ 12) (hA : A = a + t + 1 + g) : A ≤ 300 * (i + 1) := by omega
theorem size_small {a t g i : Nat} (h : a ≤ 300 * i) (hi : i ≤ 25) (ht : t ≤ 250) (hg : g ≤ 12) : a + t ≤ 9223372036854775807 ∧ a + t + 1 ≤ 9223372036854775807 ∧ a + t + 1 + g ≤ 9223372036854775807 := by omega
theorem blanks_loop (l r gs : List Int) (d : Nat) : ∀ (i k : Nat) (a b : ByteArray) (ps : List (List UInt8 × List UInt8)), 25 - i = d → i ≤ 25 → Fine ps → ps.length = i → a.data.toList = joinA ps → b.data.toList = joinB ps → a.size ≤ 300 * i → b.size ≤ 300 * i → 3000000 + 2 * d + 10 ≤ k →
    chancellaw4_LexBlanks.l0 k l r gs a b (i : Int) = some true := by
  induction d with
  | zero =>
    intro i k a b ps h1 h2 hf hl ha hb s1 s2 hk
    obtain ⟨k, rfl⟩ : ∃ m, k = m + 5 := ⟨k - 5, by omega⟩
    rw [chancellaw4_LexBlanks.l0, decide_eq_false (by omega : ¬ (i : Int) < 25), blanks_end l r gs a b _ ps hf (by omega) ha hb k (by omega)]
    split <;> rfl
  | succ d ih =>
    intro i k a b ps h1 h2 hf hl ha hb s1 s2 hk
    obtain ⟨k, rfl⟩ : ∃ m, k = m + 5 := ⟨k - 5, by omega⟩
    rw [chancellaw4_LexBlanks.l0]
    have f8 : 3000000 + 2 * d + 10 ≤ k + 3 := by omega
    have f9 : 25 - (i + 1) = d := by omega
    have f10 : i + 1 ≤ 25 := by omega
    have f11 : (0 : Int) ≤ (i : Int) := by omega
    have f12 : 3000000 ≤ k + 3 := by omega
    have f13 : 3000000 ≤ k := by omega
    have f14 : ps.length ≤ 25 := by omega
    have f15 : (i : Int) < 25 := by omega
    have hw := lx_next i (by omega)
    by_cases hil : (i : Int) < (l.length : Int)
    · obtain ⟨t, e1, z1, x, e2, hx⟩ := piece_any (rd l (i : Int)) r (k + 3) f12
      rw [if_pos hil, decide_eq_true f15, chancellaw4_LexBlanks.j1, if_pos rfl, if_pos f11, if_pos hil, e1, Option.bind_some, e2, Option.bind_some]
      by_cases hx0 : x.2 = 0
      · have hp := hx hx0
        have hsA : (a ++ t).size = a.size + t.size := by rw [ByteArray.size_append]
        have hsB : (b ++ t).size = b.size + t.size := by rw [ByteArray.size_append]
        have hsA2 : ((a ++ t) ++ (⟨#[32]⟩ : ByteArray)).size = a.size + t.size + 1 := by rw [ByteArray.size_append, hsA]; rfl
        have hsB2 : ((b ++ t) ++ (⟨#[10]⟩ : ByteArray)).size = b.size + t.size + 1 := by rw [ByteArray.size_append, hsB]; rfl
        have hdA : ((a ++ t) ++ (⟨#[32]⟩ : ByteArray)).data.toList = joinA ps ++ t.data.toList ++ [32] := by rw [Go.Joins.data_append, Go.Joins.data_append, ha]
        have hdB : ((b ++ t) ++ (⟨#[10]⟩ : ByteArray)).data.toList = joinB ps ++ t.data.toList ++ [10] := by rw [Go.Joins.data_append, Go.Joins.data_append, hb]
        have go : ∀ g : ByteArray, g ∈ gaps → chancellaw4_LexBlanks.l0 (k + 3) l r gs ((a ++ t) ++ (⟨#[32]⟩ : ByteArray)) (((b ++ t) ++ (⟨#[10]⟩ : ByteArray)) ++ g) (wrap64 ((i : Int) + 1)) = some true := by
          intro g hg
          obtain ⟨hg1, hg2⟩ := gap_cases g hg
          rw [hw]
          have f1 : Fine (ps ++ [(t.data.toList, g.data.toList)]) := by
            intro q hq
            rcases List.mem_append.1 hq with hq | hq
            · exact hf q hq
            · rw [List.mem_singleton] at hq
              rw [hq]
              exact ⟨hp, hg1⟩
          have f2 : (ps ++ [(t.data.toList, g.data.toList)]).length = i + 1 := by rw [List.length_append, hl, List.length_singleton]
          have f3 : ((a ++ t) ++ (⟨#[32]⟩ : ByteArray)).data.toList = joinA (ps ++ [(t.data.toList, g.data.toList)]) := by rw [hdA, joinA_snoc]
          have f4 : (((b ++ t) ++ (⟨#[10]⟩ : ByteArray)) ++ g).data.toList = joinB (ps ++ [(t.data.toList, g.data.toList)]) := by rw [Go.Joins.data_append, hdB, joinB_snoc]
          have f5 : (((b ++ t) ++ (⟨#[10]⟩ : ByteArray)) ++ g).size = b.size + t.size + 1 + g.size := by rw [ByteArray.size_append, hsB2]
          have f6 := size_step s1 z1 (Nat.zero_le 12) hsA2
          have f7 := size_step s2 z1 hg2 f5
          exact ih (i + 1) (k + 3) _ _ _ f9 f10 f1 f2 f3 f4 f6 f7 f8
        have m1 := size_small s1 h2 z1 (Nat.zero_le 12)
        have m2 := size_small s2 h2 z1 (Nat.zero_le 12)
        rw [if_pos hx0, if_pos m1.1, if_pos (by rw [hsA]; exact m1.2.1), if_pos m2.1, if_pos (by rw [hsB]; exact m2.2.1)]
        by_cases hg : (i : Int) < (gs.length : Int)
        · obtain ⟨n, e3, n0, n1⟩ := lxwithin_eq (rd gs (i : Int)) 5 (by decide) (by decide)
          obtain ⟨n, rfl⟩ : ∃ m : Nat, n = m := ⟨n.toNat, (Int.toNat_of_nonneg n0).symm⟩
          have hm : rdOf ByteArray.empty gaps (n : Int) ∈ gaps := rd_mem gaps n (by show n < 5; exact Int.ofNat_lt.1 n1)
          have hgz := (gap_cases _ hm).2
          rw [if_pos hg, Option.bind_some, e3, Option.bind_some, if_pos n0, if_pos (by show (n : Int) < 5; exact n1)]
          show (if ((b ++ t) ++ (⟨#[10]⟩ : ByteArray)).size + (rdOf ByteArray.empty gaps (n : Int)).size ≤ 9223372036854775807 then (chancellaw4_LexBlanks.l0 (k + 3) l r gs ((a ++ t) ++ (⟨#[32]⟩ : ByteArray)) (((b ++ t) ++ (⟨#[10]⟩ : ByteArray)) ++ (rdOf ByteArray.empty gaps (n : Int))) (wrap64 ((i : Int) + 1))) else (none)) = _
          rw [if_pos (by rw [hsB2]; exact (size_small s2 h2 z1 hgz).2.2)]
          exact go _ hm
        · rw [if_neg hg]
          have := go (⟨#[]⟩ : ByteArray) (by unfold gaps; exact List.mem_cons_self)
          rw [show ((b ++ t) ++ (⟨#[10]⟩ : ByteArray)) ++ (⟨#[]⟩ : ByteArray) = (b ++ t) ++ (⟨#[10]⟩ : ByteArray) by
            apply ByteArray.ext
            apply Array.toList_inj.1
            rw [Go.Joins.data_append]
            exact List.append_nil _] at this
          exact this
      · rw [if_neg hx0]
    · rw [if_neg hil, blanks_end l r gs a b _ ps hf f14 ha hb k f13]
theorem LexBlanks : chancellaw4_LexBlanks.Pure := by
  intro l r gs _ _ _ _ _ _ _ _ _
  suffices h : ∀ k, 4000000 ≤ k → chancellaw4_LexBlanks.f k l r gs = some true from ⟨4000000, h _ (Nat.le_refl _)⟩
  intro k hk
  unfold chancellaw4_LexBlanks.f
  rw [lxknown_true k (by omega), Option.bind_some, if_pos rfl]
  exact blanks_loop l r gs 25 0 k _ _ [] rfl (by omega) (fun _ h => by cases h) rfl rfl rfl (by decide) (by decide) (by omega)
end Go.Proofs.YtaiegjgbdfmfpaaDoor.Pure
