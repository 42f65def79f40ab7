import Derived.Test.YtelibndkkokadaaOpens
import Derived.Test.YtelibndkkokadaaGB0
/-! What the reader of arguments takes at the law's struct types. Written by wip/tools/opens_gen.py. -/
namespace Go.Proofs.Ytelibndkkokadaa.GB
open Go.RowKit Go.Proofs.YtelibndkkokadaaW.PrintWords Go.Proofs.Ytelibndkkokadaa.Opens
inductive Ok51 : S51 → Prop
  | mk (x : S51) : ((Lit.int .i64 x.f0).wf = true) → ((Lit.int .i64 x.f1).wf = true) → (x.f2.length ≤ maxLen ∧ ∀ y ∈ x.f2, (Lit.int .i64 y).wf = true) → (x.f3.length ≤ maxLen) → (∀ y ∈ x.f3, Ok51 y) → Ok51 x
theorem at51u : ∀ n, At Try.prog (Kd.upto F51 4 [3, 51] n) Ok51 51 n
  | 0 => at_zero
  | n + 1 => by
    have hs : At Try.prog (Kd.slice 51 (Kd.upto F51 4 [3, 51] n)) (fun xs => xs.length ≤ maxLen ∧ ∀ x ∈ xs, Ok51 x) 47 n := by
      cases n with
      | zero => exact at_zero
      | succ m => exact at_imp (at_slice 51 Try.underlying47 ((sz51 m).trans (by kernel_rfl)) (at51u m)) (fun w a cs h => (Kd.mono_slice 51 Kd.mono_id).K _ _ ((sz51 m).trans (sz51 (m + 1)).symm) (fun _ _ _ h => Kd.upto_K_le mono51 sz51 (Nat.le_succ m) h) w a cs h) (fun _ h => h)
    intro H enc w cs x h
    obtain ⟨xs, m, hm, _, hlen, hxl, hf⟩ := DataW.trod_struct Try.underlying51 h
    obtain rfl : m = n := by omega
    obtain ⟨a0, s0, o0⟩ := seg_field hf hxl (i := 0) rfl (by kernel_rfl) (at_int Try.underlying3 m)
    obtain ⟨a1, s1, o1⟩ := seg_field hf hxl (i := 1) rfl (by kernel_rfl) (at_int Try.underlying2 m)
    obtain ⟨a2, s2, o2⟩ := seg_field hf hxl (i := 2) rfl (by kernel_rfl) ((at_slice_any 3 Try.underlying23 (by kernel_rfl) (fun m_ => at_int Try.underlying3 m_) m))
    obtain ⟨a3, s3, o3⟩ := seg_field hf hxl (i := 3) rfl (show 1 = _ by kernel_rfl) hs
    refine ⟨⟨a0, a1, a2, a3⟩, ?_, Ok51.mk _ o0 o1 o2 o3.1 o3.2⟩
    exact seg_whole (seg_pair s0 (seg_pair s1 (seg_pair s2 s3))) (hlen.trans (by kernel_rfl))
theorem at51 (n : Nat) : At Try.prog k51 Ok51 51 n := at_imp (at51u n) (fun _ _ _ h => ⟨n, h⟩) (fun _ h => h)
inductive Ok49 : S49 → Prop
  | mk (x : S49) : ((Lit.int .i64 x.f0).wf = true) → ((Lit.int .i64 x.f1).wf = true) → (x.f2.length ≤ maxLen ∧ ∀ y ∈ x.f2, (Lit.int .i64 y).wf = true) → (x.f3.length ≤ maxLen ∧ ∀ y ∈ x.f3, (Lit.int .i64 y).wf = true) → (x.f4.length ≤ maxLen ∧ ∀ y ∈ x.f4, Ok51 y) → Ok49 x
theorem at49 : ∀ n, At Try.prog k49 Ok49 49 n
  | 0 => at_zero
  | n + 1 => by
    intro H enc w cs x h
    obtain ⟨xs, m, hm, _, hlen, hxl, hf⟩ := DataW.trod_struct Try.underlying49 h
    obtain rfl : m = n := by omega
    obtain ⟨a0, s0, o0⟩ := seg_field hf hxl (i := 0) rfl (by kernel_rfl) (at_int Try.underlying3 m)
    obtain ⟨a1, s1, o1⟩ := seg_field hf hxl (i := 1) rfl (by kernel_rfl) (at_int Try.underlying3 m)
    obtain ⟨a2, s2, o2⟩ := seg_field hf hxl (i := 2) rfl (by kernel_rfl) ((at_slice_any 3 Try.underlying23 (by kernel_rfl) (fun m_ => at_int Try.underlying3 m_) m))
    obtain ⟨a3, s3, o3⟩ := seg_field hf hxl (i := 3) rfl (by kernel_rfl) ((at_slice_any 3 Try.underlying23 (by kernel_rfl) (fun m_ => at_int Try.underlying3 m_) m))
    obtain ⟨a4, s4, o4⟩ := seg_field hf hxl (i := 4) rfl (by kernel_rfl) ((at_slice_any 51 Try.underlying47 (by kernel_rfl) (fun m_ => at51 m_) m))
    refine ⟨⟨a0, a1, a2, a3, a4⟩, ?_, Ok49.mk _ o0 o1 o2 o3 o4⟩
    exact seg_whole (seg_pair s0 (seg_pair s1 (seg_pair s2 (seg_pair s3 s4)))) (hlen.trans (by kernel_rfl))
end Go.Proofs.Ytelibndkkokadaa.GB
