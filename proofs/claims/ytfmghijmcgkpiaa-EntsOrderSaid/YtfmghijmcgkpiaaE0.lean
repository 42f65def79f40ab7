import Derived.Test.YtfmghijmcgkpiaaGO0
namespace Go.Proofs.Ytfmghijmcgkpiaa.GO
open Go.RowKit Go.Proofs.YtfmghijmcgkpiaaW.PrintWords Go.Proofs.YtfmghijmcgkpiaaW.PrintLast Go.Proofs.Ytfmghijmcgkpiaa.HandV Go.Proofs.YtfmghijmcgkpiaaW.PrintMore
attribute [local go_sem] max2_int min2_int max_two min_two max_three min_three max_four min_four   -- for this text's walks alone
set_option linter.unusedVariables false
set_option linter.unusedSimpArgs false
theorem info46 : (Try.prog.info? 46).map (fun i => (i.zero, i.size, i.bytes)) = some (some (.agg #[(.string ⟨#[]⟩), (.string ⟨#[]⟩), (.slice none 0 0), (.slice none 0 0)]), 4, 80) := by kernel_rfl
theorem k28_heap : Kd.Heap k28 := Kd.heap_iso _ (Kd.heap_pair Kd.heap_string Kd.heap_string)
theorem k31_heap : Kd.Heap k31 := Kd.heap_fix (fun _ h_ => Kd.heap_iso _ (Kd.heap_pair (Kd.heap_int .i64) (Kd.heap_pair Kd.heap_bool (Kd.heap_pair (Kd.heap_int .i64) (Kd.heap_pair Kd.heap_string (Kd.heap_pair k28_heap (Kd.heap_slice 31 h_)))))))
theorem k49_heap : Kd.Heap k49 := Kd.heap_iso _ (Kd.heap_pair Kd.heap_string k31_heap)
theorem k46_heap : Kd.Heap k46 := Kd.heap_iso _ (Kd.heap_pair k28_heap (Kd.heap_pair (Kd.heap_slice 28 k28_heap) (Kd.heap_slice 49 k49_heap)))
end Go.Proofs.Ytfmghijmcgkpiaa.GO
