/-
  NARROWER THAN 'FOR EVERY INPUT', by the rows' own cells (each row's printed sentence says how): ValueOrder: loops · ValueTexts: loops · ValueMixed: loops · ValueAsks: loops · ValueSets: loops.
  DERIVED. THE GIVEN ROWS OF THIS SEAT. 7 by the template 'for every input the law returns true; each argument reads behind the call as it read before'; 0 by the template 'total and deterministic' (their statements: YtnjlggpidkbjcaaTotals.lean).
  GIVEN WITH THE SEED: the statements are not yours to turn. If you find one false, say at which input.
  Laid BY PROGRAM, IN A SANDBOX (cutbox-rows.mjs): the forced cells as the released guide's own fill.sh prints them over the translation 9ef4a92f7bca3514… (all of the seat's roots in one cut). By AI agents, Wed Nov 11 2026. No macro, syntax, notation, axiom, sorry.
-/
import Derived.Test.YtnjlggpidkbjcaaChecked
import GoSem.Claim
import GoSem.ClaimJoined
import GoSem.ClaimMapViews
import Derived.JoinedTies
import Derived.KernelRfl
namespace Go.Proofs.Ytnjlggpidkbjcaa
/- THE CELL 'sum', in the pinned program and in every row, IS THE sha256 OF THE DUMP (.gsa) THAT YtnjlggpidkbjcaaProg.lean LOADS. Nothing in Lean hashes anything: it is a label: what it is worth is what the hold of that sum in a sandbox is worth. -/
noncomputable def Try.pinned : Pinned := { name := "ytnjlggpidkbjcaa", sum := "9ef4a92f7bca35146f0cb02e34fc723a9f15f94fb41bb82208921408a1bdfb81", checked := Try.checked }
namespace Rows
def none {H : Type} : Left H := { results := [], args := [] }

/-- 'chancellaw3.ValueOrder': WHATEVER THE INPUT: true; the input reads as it did. -/
def valueOrderSpec : ChangeSpec := { name := "valueOrder", fn := fun _ => fun
  | [d1, d2, d3] => { results := [.lit (.bool true)], args := [d1, d2, d3] }
  | _ => none }
def valueOrderRow : OpenClaim := { program := "ytnjlggpidkbjcaa", sum := "9ef4a92f7bca35146f0cb02e34fc723a9f15f94fb41bb82208921408a1bdfb81", func := "chancel/chancellaw3.ValueOrder", spec := "valueOrder", inPlace := ["slices.overlaps[chancel/api.Value]"], unfollowed := true, recurses := true, loops := true, apart := false }
def ValueOrderSaid : Prop := valueOrderRow.holds Try.pinned (OpenSpec.ofChange valueOrderSpec)

/-- ITS FALSE NEIGHBOUR: 'it returns false'. Refute it at one input. -/
def valueOrderWrong : ChangeSpec := { name := "valueOrder", fn := fun _ => fun
  | [d1, d2, d3] => { results := [.lit (.bool false)], args := [d1, d2, d3] }
  | _ => none }
def ValueOrderWrongFalsely : Prop := valueOrderRow.holds Try.pinned (OpenSpec.ofChange valueOrderWrong)

/-- 'chancellaw3.ValueTexts': WHATEVER THE INPUT: true; the input reads as it did. -/
def valueTextsSpec : ChangeSpec := { name := "valueTexts", fn := fun _ => fun
  | [d1, d2] => { results := [.lit (.bool true)], args := [d1, d2] }
  | _ => none }
def valueTextsRow : OpenClaim := { program := "ytnjlggpidkbjcaa", sum := "9ef4a92f7bca35146f0cb02e34fc723a9f15f94fb41bb82208921408a1bdfb81", func := "chancel/chancellaw3.ValueTexts", spec := "valueTexts", inPlace := ["slices.overlaps[chancel/api.Value]"], unfollowed := true, recurses := true, loops := true, apart := false }
def ValueTextsSaid : Prop := valueTextsRow.holds Try.pinned (OpenSpec.ofChange valueTextsSpec)

/-- ITS FALSE NEIGHBOUR: 'it returns false'. Refute it at one input. -/
def valueTextsWrong : ChangeSpec := { name := "valueTexts", fn := fun _ => fun
  | [d1, d2] => { results := [.lit (.bool false)], args := [d1, d2] }
  | _ => none }
def ValueTextsWrongFalsely : Prop := valueTextsRow.holds Try.pinned (OpenSpec.ofChange valueTextsWrong)

/-- 'chancellaw3.ValueMixed': WHATEVER THE INPUT: true; the input reads as it did. -/
def valueMixedSpec : ChangeSpec := { name := "valueMixed", fn := fun _ => fun
  | [d1, d2, d3] => { results := [.lit (.bool true)], args := [d1, d2, d3] }
  | _ => none }
def valueMixedRow : OpenClaim := { program := "ytnjlggpidkbjcaa", sum := "9ef4a92f7bca35146f0cb02e34fc723a9f15f94fb41bb82208921408a1bdfb81", func := "chancel/chancellaw3.ValueMixed", spec := "valueMixed", inPlace := ["slices.overlaps[chancel/api.Value]"], unfollowed := true, recurses := true, loops := true, apart := false }
def ValueMixedSaid : Prop := valueMixedRow.holds Try.pinned (OpenSpec.ofChange valueMixedSpec)

/-- ITS FALSE NEIGHBOUR: 'it returns false'. Refute it at one input. -/
def valueMixedWrong : ChangeSpec := { name := "valueMixed", fn := fun _ => fun
  | [d1, d2, d3] => { results := [.lit (.bool false)], args := [d1, d2, d3] }
  | _ => none }
def ValueMixedWrongFalsely : Prop := valueMixedRow.holds Try.pinned (OpenSpec.ofChange valueMixedWrong)

/-- 'chancellaw3.ValueAsks': WHATEVER THE INPUT: true; the input reads as it did. -/
def valueAsksSpec : ChangeSpec := { name := "valueAsks", fn := fun _ => fun
  | [d1, d2] => { results := [.lit (.bool true)], args := [d1, d2] }
  | _ => none }
def valueAsksRow : OpenClaim := { program := "ytnjlggpidkbjcaa", sum := "9ef4a92f7bca35146f0cb02e34fc723a9f15f94fb41bb82208921408a1bdfb81", func := "chancel/chancellaw3.ValueAsks", spec := "valueAsks", inPlace := ["slices.overlaps[chancel/api.Value]"], unfollowed := true, recurses := true, loops := true, apart := false }
def ValueAsksSaid : Prop := valueAsksRow.holds Try.pinned (OpenSpec.ofChange valueAsksSpec)

/-- ITS FALSE NEIGHBOUR: 'it returns false'. Refute it at one input. -/
def valueAsksWrong : ChangeSpec := { name := "valueAsks", fn := fun _ => fun
  | [d1, d2] => { results := [.lit (.bool false)], args := [d1, d2] }
  | _ => none }
def ValueAsksWrongFalsely : Prop := valueAsksRow.holds Try.pinned (OpenSpec.ofChange valueAsksWrong)

/-- 'chancellaw3.ValueSets': WHATEVER THE INPUT: true; the input reads as it did. -/
def valueSetsSpec : ChangeSpec := { name := "valueSets", fn := fun _ => fun
  | [d1, d2, d3] => { results := [.lit (.bool true)], args := [d1, d2, d3] }
  | _ => none }
def valueSetsRow : OpenClaim := { program := "ytnjlggpidkbjcaa", sum := "9ef4a92f7bca35146f0cb02e34fc723a9f15f94fb41bb82208921408a1bdfb81", func := "chancel/chancellaw3.ValueSets", spec := "valueSets", inPlace := ["slices.overlaps[chancel/api.Value]"], unfollowed := true, recurses := true, loops := true, apart := false }
def ValueSetsSaid : Prop := valueSetsRow.holds Try.pinned (OpenSpec.ofChange valueSetsSpec)

/-- ITS FALSE NEIGHBOUR: 'it returns false'. Refute it at one input. -/
def valueSetsWrong : ChangeSpec := { name := "valueSets", fn := fun _ => fun
  | [d1, d2, d3] => { results := [.lit (.bool false)], args := [d1, d2, d3] }
  | _ => none }
def ValueSetsWrongFalsely : Prop := valueSetsRow.holds Try.pinned (OpenSpec.ofChange valueSetsWrong)

/-- 'chancellaw3.ValueLong': WHATEVER THE INPUT: true; the input reads as it did. -/
def valueLongSpec : ChangeSpec := { name := "valueLong", fn := fun _ => fun
  | [d1, d2, d3] => { results := [.lit (.bool true)], args := [d1, d2, d3] }
  | _ => none }
def valueLongRow : OpenClaim := { program := "ytnjlggpidkbjcaa", sum := "9ef4a92f7bca35146f0cb02e34fc723a9f15f94fb41bb82208921408a1bdfb81", func := "chancel/chancellaw3.ValueLong", spec := "valueLong", inPlace := ["slices.overlaps[chancel/api.Value]"], unfollowed := true, recurses := true, apart := false }
def ValueLongSaid : Prop := valueLongRow.holds Try.pinned (OpenSpec.ofChange valueLongSpec)

/-- ITS FALSE NEIGHBOUR: 'it returns false'. Refute it at one input. -/
def valueLongWrong : ChangeSpec := { name := "valueLong", fn := fun _ => fun
  | [d1, d2, d3] => { results := [.lit (.bool false)], args := [d1, d2, d3] }
  | _ => none }
def ValueLongWrongFalsely : Prop := valueLongRow.holds Try.pinned (OpenSpec.ofChange valueLongWrong)

/-- 'chancellaw3.ValueMany': WHATEVER THE INPUT: true; the input reads as it did. -/
def valueManySpec : ChangeSpec := { name := "valueMany", fn := fun _ => fun
  | [d1, d2, d3] => { results := [.lit (.bool true)], args := [d1, d2, d3] }
  | _ => none }
def valueManyRow : OpenClaim := { program := "ytnjlggpidkbjcaa", sum := "9ef4a92f7bca35146f0cb02e34fc723a9f15f94fb41bb82208921408a1bdfb81", func := "chancel/chancellaw3.ValueMany", spec := "valueMany", inPlace := ["slices.overlaps[chancel/api.Value]"], unfollowed := true, recurses := true, apart := false }
def ValueManySaid : Prop := valueManyRow.holds Try.pinned (OpenSpec.ofChange valueManySpec)

/-- ITS FALSE NEIGHBOUR: 'it returns false'. Refute it at one input. -/
def valueManyWrong : ChangeSpec := { name := "valueMany", fn := fun _ => fun
  | [d1, d2, d3] => { results := [.lit (.bool false)], args := [d1, d2, d3] }
  | _ => none }
def ValueManyWrongFalsely : Prop := valueManyRow.holds Try.pinned (OpenSpec.ofChange valueManyWrong)

/- THE SECOND FORM. 'bulk': how many values and letters a reading holds, each counted each time it is reached (what is shared counts as often as it is met; a slice's spare places count too). A statement '..UptoSaid' is the law's where the arguments, and the package variables that the reading takes, are together of bulk at most 1048576: NARROWER than '..Said'. Prove '..Said' where nothing that the law and all that it calls make is longer than what came in: it says more and counts as full. Else prove '..UptoSaid'. A law counts once. -/
mutual
def uptoBulk {H : Type} : DataW H → Nat
  | .lit (.string bytes) => bytes.length + 1
  | .lit _ => 1
  | .nil => 1
  | .ptr d => uptoBulk d + 1
  | .slice elems spare => uptoBulkAll elems + uptoBulkAll spare + 1
  | .agg parts => uptoBulkAll parts + 1
  | .iface _ d => uptoBulk d + 1
  | .map entries => uptoBulkEntries entries + 1
  | .held _ => 1
def uptoBulkAll {H : Type} : List (DataW H) → Nat
  | [] => 0
  | d :: r => uptoBulk d + uptoBulkAll r
def uptoBulkEntries {H : Type} : List (Lit × DataW H) → Nat
  | [] => 0
  | x :: r => uptoBulkEntry x + uptoBulkEntries r
def uptoBulkEntry {H : Type} : Lit × DataW H → Nat
  | (.string bytes, d) => bytes.length + uptoBulk d + 1
  | (_, d) => uptoBulk d + 1
 end
def uptoSmall : (H : Type) → List (DataW H) → Bool := fun _ ds => decide (uptoBulkAll ds ≤ 1048576)
def OpenSpec.upto (s : _root_.Go.ChangeSpec) : _root_.Go.OpenSpec := { _root_.Go.OpenSpec.ofChange s with cond := some uptoSmall }

/-- 'chancellaw3.ValueOrder', WHERE WHAT IT READS IS OF BULK AT MOST 1048576: true; the input reads as it did. -/
def valueOrderUptoRow : OpenClaim := { program := "ytnjlggpidkbjcaa", sum := "9ef4a92f7bca35146f0cb02e34fc723a9f15f94fb41bb82208921408a1bdfb81", func := "chancel/chancellaw3.ValueOrder", spec := "valueOrder", inPlace := ["slices.overlaps[chancel/api.Value]"], unfollowed := true, recurses := true, loops := true, apart := false, narrowed := true }
def ValueOrderUptoSaid : Prop := valueOrderUptoRow.holds Try.pinned (OpenSpec.upto valueOrderSpec)

/-- 'chancellaw3.ValueTexts', WHERE WHAT IT READS IS OF BULK AT MOST 1048576: true; the input reads as it did. -/
def valueTextsUptoRow : OpenClaim := { program := "ytnjlggpidkbjcaa", sum := "9ef4a92f7bca35146f0cb02e34fc723a9f15f94fb41bb82208921408a1bdfb81", func := "chancel/chancellaw3.ValueTexts", spec := "valueTexts", inPlace := ["slices.overlaps[chancel/api.Value]"], unfollowed := true, recurses := true, loops := true, apart := false, narrowed := true }
def ValueTextsUptoSaid : Prop := valueTextsUptoRow.holds Try.pinned (OpenSpec.upto valueTextsSpec)

/-- 'chancellaw3.ValueMixed', WHERE WHAT IT READS IS OF BULK AT MOST 1048576: true; the input reads as it did. -/
def valueMixedUptoRow : OpenClaim := { program := "ytnjlggpidkbjcaa", sum := "9ef4a92f7bca35146f0cb02e34fc723a9f15f94fb41bb82208921408a1bdfb81", func := "chancel/chancellaw3.ValueMixed", spec := "valueMixed", inPlace := ["slices.overlaps[chancel/api.Value]"], unfollowed := true, recurses := true, loops := true, apart := false, narrowed := true }
def ValueMixedUptoSaid : Prop := valueMixedUptoRow.holds Try.pinned (OpenSpec.upto valueMixedSpec)

/-- 'chancellaw3.ValueAsks', WHERE WHAT IT READS IS OF BULK AT MOST 1048576: true; the input reads as it did. -/
def valueAsksUptoRow : OpenClaim := { program := "ytnjlggpidkbjcaa", sum := "9ef4a92f7bca35146f0cb02e34fc723a9f15f94fb41bb82208921408a1bdfb81", func := "chancel/chancellaw3.ValueAsks", spec := "valueAsks", inPlace := ["slices.overlaps[chancel/api.Value]"], unfollowed := true, recurses := true, loops := true, apart := false, narrowed := true }
def ValueAsksUptoSaid : Prop := valueAsksUptoRow.holds Try.pinned (OpenSpec.upto valueAsksSpec)

/-- 'chancellaw3.ValueSets', WHERE WHAT IT READS IS OF BULK AT MOST 1048576: true; the input reads as it did. -/
def valueSetsUptoRow : OpenClaim := { program := "ytnjlggpidkbjcaa", sum := "9ef4a92f7bca35146f0cb02e34fc723a9f15f94fb41bb82208921408a1bdfb81", func := "chancel/chancellaw3.ValueSets", spec := "valueSets", inPlace := ["slices.overlaps[chancel/api.Value]"], unfollowed := true, recurses := true, loops := true, apart := false, narrowed := true }
def ValueSetsUptoSaid : Prop := valueSetsUptoRow.holds Try.pinned (OpenSpec.upto valueSetsSpec)

/-- 'chancellaw3.ValueLong', WHERE WHAT IT READS IS OF BULK AT MOST 1048576: true; the input reads as it did. -/
def valueLongUptoRow : OpenClaim := { program := "ytnjlggpidkbjcaa", sum := "9ef4a92f7bca35146f0cb02e34fc723a9f15f94fb41bb82208921408a1bdfb81", func := "chancel/chancellaw3.ValueLong", spec := "valueLong", inPlace := ["slices.overlaps[chancel/api.Value]"], unfollowed := true, recurses := true, apart := false, narrowed := true }
def ValueLongUptoSaid : Prop := valueLongUptoRow.holds Try.pinned (OpenSpec.upto valueLongSpec)

/-- 'chancellaw3.ValueMany', WHERE WHAT IT READS IS OF BULK AT MOST 1048576: true; the input reads as it did. -/
def valueManyUptoRow : OpenClaim := { program := "ytnjlggpidkbjcaa", sum := "9ef4a92f7bca35146f0cb02e34fc723a9f15f94fb41bb82208921408a1bdfb81", func := "chancel/chancellaw3.ValueMany", spec := "valueMany", inPlace := ["slices.overlaps[chancel/api.Value]"], unfollowed := true, recurses := true, apart := false, narrowed := true }
def ValueManyUptoSaid : Prop := valueManyUptoRow.holds Try.pinned (OpenSpec.upto valueManySpec)

end Rows
end Go.Proofs.Ytnjlggpidkbjcaa
