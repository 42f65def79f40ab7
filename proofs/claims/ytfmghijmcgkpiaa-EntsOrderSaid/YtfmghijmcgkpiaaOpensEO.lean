import Derived.Test.YtfmghijmcgkpiaaOpens
import Derived.Test.YtfmghijmcgkpiaaGO0
/-! What the reader of arguments takes at the law's struct types. Written by wip/tools/opens_gen.py. -/
namespace Go.Proofs.Ytfmghijmcgkpiaa.GO
open Go.RowKit Go.Proofs.YtfmghijmcgkpiaaW.PrintWords Go.Proofs.Ytfmghijmcgkpiaa.Opens
inductive Ok25 : S25 → Prop
  | mk (x : S25) : ((Lit.int .i64 x.f0).wf = true) → ((Lit.int .i64 x.f1).wf = true) → (x.f2.length ≤ maxLen ∧ ∀ y ∈ x.f2, (Lit.int .i64 y).wf = true) → (x.f3.length ≤ maxLen) → (∀ y ∈ x.f3, Ok25 y) → Ok25 x
theorem at25u : ∀ n, At Try.prog (Kd.upto F25 4 [3, 25] n) Ok25 25 n
  | 0 => at_zero
  | n + 1 => by
    have hs : At Try.prog (Kd.slice 25 (Kd.upto F25 4 [3, 25] n)) (fun xs => xs.length ≤ maxLen ∧ ∀ x ∈ xs, Ok25 x) 23 n := by
      cases n with
      | zero => exact at_zero
      | succ m => exact at_imp (at_slice 25 Try.underlying23 ((sz25 m).trans (by kernel_rfl)) (at25u m)) (fun w a cs h => (Kd.mono_slice 25 Kd.mono_id).K _ _ ((sz25 m).trans (sz25 (m + 1)).symm) (fun _ _ _ h => Kd.upto_K_le mono25 sz25 (Nat.le_succ m) h) w a cs h) (fun _ h => h)
    intro H enc w cs x h
    obtain ⟨xs, m, hm, _, hlen, hxl, hf⟩ := DataW.trod_struct Try.underlying25 h
    obtain rfl : m = n := by omega
    obtain ⟨a0, s0, o0⟩ := seg_field hf hxl (i := 0) rfl (by kernel_rfl) (at_int Try.underlying3 m)
    obtain ⟨a1, s1, o1⟩ := seg_field hf hxl (i := 1) rfl (by kernel_rfl) (at_int Try.underlying2 m)
    obtain ⟨a2, s2, o2⟩ := seg_field hf hxl (i := 2) rfl (by kernel_rfl) ((at_slice_any 3 Try.underlying22 (by kernel_rfl) (fun m_ => at_int Try.underlying3 m_) m))
    obtain ⟨a3, s3, o3⟩ := seg_field hf hxl (i := 3) rfl (show 1 = _ by kernel_rfl) hs
    refine ⟨⟨a0, a1, a2, a3⟩, ?_, Ok25.mk _ o0 o1 o2 o3.1 o3.2⟩
    exact seg_whole (seg_pair s0 (seg_pair s1 (seg_pair s2 s3))) (hlen.trans (by kernel_rfl))
theorem at25 (n : Nat) : At Try.prog k25 Ok25 25 n := at_imp (at25u n) (fun _ _ _ h => ⟨n, h⟩) (fun _ h => h)
inductive Ok42 : S42 → Prop
  | mk (x : S42) : ((Lit.int .i64 x.f0).wf = true) → ((Lit.int .i64 x.f1).wf = true) → (x.f2.length ≤ maxLen ∧ ∀ y ∈ x.f2, (Lit.int .i64 y).wf = true) → (x.f3.length ≤ maxLen ∧ ∀ y ∈ x.f3, (Lit.int .i64 y).wf = true) → (x.f4.length ≤ maxLen ∧ ∀ y ∈ x.f4, Ok25 y) → Ok42 x
theorem at42 : ∀ n, At Try.prog k42 Ok42 42 n
  | 0 => at_zero
  | n + 1 => by
    intro H enc w cs x h
    obtain ⟨xs, m, hm, _, hlen, hxl, hf⟩ := DataW.trod_struct Try.underlying42 h
    obtain rfl : m = n := by omega
    obtain ⟨a0, s0, o0⟩ := seg_field hf hxl (i := 0) rfl (by kernel_rfl) (at_int Try.underlying3 m)
    obtain ⟨a1, s1, o1⟩ := seg_field hf hxl (i := 1) rfl (by kernel_rfl) (at_int Try.underlying3 m)
    obtain ⟨a2, s2, o2⟩ := seg_field hf hxl (i := 2) rfl (by kernel_rfl) ((at_slice_any 3 Try.underlying22 (by kernel_rfl) (fun m_ => at_int Try.underlying3 m_) m))
    obtain ⟨a3, s3, o3⟩ := seg_field hf hxl (i := 3) rfl (by kernel_rfl) ((at_slice_any 3 Try.underlying22 (by kernel_rfl) (fun m_ => at_int Try.underlying3 m_) m))
    obtain ⟨a4, s4, o4⟩ := seg_field hf hxl (i := 4) rfl (by kernel_rfl) ((at_slice_any 25 Try.underlying23 (by kernel_rfl) (fun m_ => at25 m_) m))
    refine ⟨⟨a0, a1, a2, a3, a4⟩, ?_, Ok42.mk _ o0 o1 o2 o3 o4⟩
    exact seg_whole (seg_pair s0 (seg_pair s1 (seg_pair s2 (seg_pair s3 s4)))) (hlen.trans (by kernel_rfl))
end Go.Proofs.Ytfmghijmcgkpiaa.GO
