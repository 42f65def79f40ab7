import Derived.Test.YtelibndkkokadaaGreatOpens
import Derived.Test.YtelibndkkokadaaGreatGB0
/-! What the reader of arguments takes at the law's struct types. Written by wip/tools/opens_gen.py. -/
namespace Go.Proofs.YtelibndkkokadaaGreat.GB
open Go.RowKit Go.Proofs.YtelibndkkokadaaGreatW.PrintWords Go.Proofs.YtelibndkkokadaaGreat.Opens
inductive Ok94 : S94 → Prop
  | mk (x : S94) : ((Lit.int .i64 x.f0).wf = true) → ((Lit.int .i64 x.f1).wf = true) → (x.f2.length ≤ maxLen ∧ ∀ y ∈ x.f2, (Lit.int .i64 y).wf = true) → (x.f3.length ≤ maxLen) → (∀ y ∈ x.f3, Ok94 y) → Ok94 x
theorem at94u : ∀ n, At Tryz.prog (Kd.upto F94 4 [3, 94] n) Ok94 94 n
  | 0 => at_zero
  | n + 1 => by
    have hs : At Tryz.prog (Kd.slice 94 (Kd.upto F94 4 [3, 94] n)) (fun xs => xs.length ≤ maxLen ∧ ∀ x ∈ xs, Ok94 x) 62 n := by
      cases n with
      | zero => exact at_zero
      | succ m => exact at_imp (at_slice 94 Tryz.underlying62 ((sz94 m).trans (by kernel_rfl)) (at94u m)) (fun w a cs h => (Kd.mono_slice 94 Kd.mono_id).K _ _ ((sz94 m).trans (sz94 (m + 1)).symm) (fun _ _ _ h => Kd.upto_K_le mono94 sz94 (Nat.le_succ m) h) w a cs h) (fun _ h => h)
    intro H enc w cs x h
    obtain ⟨xs, m, hm, _, hlen, hxl, hf⟩ := DataW.trod_struct Tryz.underlying94 h
    obtain rfl : m = n := by omega
    obtain ⟨a0, s0, o0⟩ := seg_field hf hxl (i := 0) rfl (by kernel_rfl) (at_int Tryz.underlying3 m)
    obtain ⟨a1, s1, o1⟩ := seg_field hf hxl (i := 1) rfl (by kernel_rfl) (at_int Tryz.underlying2 m)
    obtain ⟨a2, s2, o2⟩ := seg_field hf hxl (i := 2) rfl (by kernel_rfl) ((at_slice_any 3 Tryz.underlying23 (by kernel_rfl) (fun m_ => at_int Tryz.underlying3 m_) m))
    obtain ⟨a3, s3, o3⟩ := seg_field hf hxl (i := 3) rfl (show 1 = _ by kernel_rfl) hs
    refine ⟨⟨a0, a1, a2, a3⟩, ?_, Ok94.mk _ o0 o1 o2 o3.1 o3.2⟩
    exact seg_whole (seg_pair s0 (seg_pair s1 (seg_pair s2 s3))) (hlen.trans (by kernel_rfl))
theorem at94 (n : Nat) : At Tryz.prog k94 Ok94 94 n := at_imp (at94u n) (fun _ _ _ h => ⟨n, h⟩) (fun _ h => h)
inductive Ok64 : S64 → Prop
  | mk (x : S64) : ((Lit.int .i64 x.f0).wf = true) → ((Lit.int .i64 x.f1).wf = true) → (x.f2.length ≤ maxLen ∧ ∀ y ∈ x.f2, (Lit.int .i64 y).wf = true) → (x.f3.length ≤ maxLen ∧ ∀ y ∈ x.f3, (Lit.int .i64 y).wf = true) → (x.f4.length ≤ maxLen ∧ ∀ y ∈ x.f4, Ok94 y) → Ok64 x
theorem at64 : ∀ n, At Tryz.prog k64 Ok64 64 n
  | 0 => at_zero
  | n + 1 => by
    intro H enc w cs x h
    obtain ⟨xs, m, hm, _, hlen, hxl, hf⟩ := DataW.trod_struct Tryz.underlying64 h
    obtain rfl : m = n := by omega
    obtain ⟨a0, s0, o0⟩ := seg_field hf hxl (i := 0) rfl (by kernel_rfl) (at_int Tryz.underlying3 m)
    obtain ⟨a1, s1, o1⟩ := seg_field hf hxl (i := 1) rfl (by kernel_rfl) (at_int Tryz.underlying3 m)
    obtain ⟨a2, s2, o2⟩ := seg_field hf hxl (i := 2) rfl (by kernel_rfl) ((at_slice_any 3 Tryz.underlying23 (by kernel_rfl) (fun m_ => at_int Tryz.underlying3 m_) m))
    obtain ⟨a3, s3, o3⟩ := seg_field hf hxl (i := 3) rfl (by kernel_rfl) ((at_slice_any 3 Tryz.underlying23 (by kernel_rfl) (fun m_ => at_int Tryz.underlying3 m_) m))
    obtain ⟨a4, s4, o4⟩ := seg_field hf hxl (i := 4) rfl (by kernel_rfl) ((at_slice_any 94 Tryz.underlying62 (by kernel_rfl) (fun m_ => at94 m_) m))
    refine ⟨⟨a0, a1, a2, a3, a4⟩, ?_, Ok64.mk _ o0 o1 o2 o3 o4⟩
    exact seg_whole (seg_pair s0 (seg_pair s1 (seg_pair s2 (seg_pair s3 s4)))) (hlen.trans (by kernel_rfl))
end Go.Proofs.YtelibndkkokadaaGreat.GB
