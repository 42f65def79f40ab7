/-
  NARROWER THAN 'FOR EVERY INPUT', by the rows' own cells (each row's printed sentence says how): ValueOrder: loops · ValueMixed: loops · EntsGets: loops · EntsOrder: loops · EntsPlay: loops · EvalSames: loops · EvalHas: loops · AboveAsks: loops · FitAsks: loops.
  DERIVED. THE GIVEN ROWS OF THIS SEAT. 12 by the template 'for every input the law returns true; each argument reads behind the call as it read before'; 0 by the template 'total and deterministic' (their statements: YtfmghijmcgkpiaaTotals.lean).
  GIVEN WITH THE SEED: the statements are not yours to turn. If you find one false, say at which input.
  Laid BY PROGRAM, IN A SANDBOX (cutbox-rows.mjs): the forced cells as the released guide's own fill.sh prints them over the translation 1452b9dd584e0f08… (all of the seat's roots in one cut). By AI agents, Wed Nov 11 2026. No macro, syntax, notation, axiom, sorry.
-/
import Derived.Test.YtfmghijmcgkpiaaChecked
import GoSem.Claim
import GoSem.ClaimJoined
import GoSem.ClaimMapViews
import Derived.JoinedTies
import Derived.KernelRfl
namespace Go.Proofs.Ytfmghijmcgkpiaa
/- THE CELL 'sum', in the pinned program and in every row, IS THE sha256 OF THE DUMP (.gsa) THAT YtfmghijmcgkpiaaProg.lean LOADS. Nothing in Lean hashes anything: it is a label: what it is worth is what the hold of that sum in a sandbox is worth. -/
noncomputable def Try.pinned : Pinned := { name := "ytfmghijmcgkpiaa", sum := "1452b9dd584e0f08182277184dd305e903af4ea69795f4aedea40e001778932a", checked := Try.checked }
namespace Rows
def none {H : Type} : Left H := { results := [], args := [] }

/-- 'chancellaw3.ValueOrder': WHATEVER THE INPUT: true; the input reads as it did. -/
def valueOrderSpec : ChangeSpec := { name := "valueOrder", fn := fun _ => fun
  | [d1, d2, d3] => { results := [.lit (.bool true)], args := [d1, d2, d3] }
  | _ => none }
def valueOrderRow : OpenClaim := { program := "ytfmghijmcgkpiaa", sum := "1452b9dd584e0f08182277184dd305e903af4ea69795f4aedea40e001778932a", func := "chancel/chancellaw3.ValueOrder", spec := "valueOrder", inPlace := ["slices.overlaps[chancel/api.Value]"], unfollowed := true, recurses := true, loops := true, plainKeys := false, apart := false }
def ValueOrderSaid : Prop := valueOrderRow.holds Try.pinned (OpenSpec.ofChange valueOrderSpec)

/-- ITS FALSE NEIGHBOUR: 'it returns false'. Refute it at one input. -/
def valueOrderWrong : ChangeSpec := { name := "valueOrder", fn := fun _ => fun
  | [d1, d2, d3] => { results := [.lit (.bool false)], args := [d1, d2, d3] }
  | _ => none }
def ValueOrderWrongFalsely : Prop := valueOrderRow.holds Try.pinned (OpenSpec.ofChange valueOrderWrong)

/-- 'chancellaw3.ValueMixed': WHATEVER THE INPUT: true; the input reads as it did. -/
def valueMixedSpec : ChangeSpec := { name := "valueMixed", fn := fun _ => fun
  | [d1, d2, d3] => { results := [.lit (.bool true)], args := [d1, d2, d3] }
  | _ => none }
def valueMixedRow : OpenClaim := { program := "ytfmghijmcgkpiaa", sum := "1452b9dd584e0f08182277184dd305e903af4ea69795f4aedea40e001778932a", func := "chancel/chancellaw3.ValueMixed", spec := "valueMixed", inPlace := ["slices.overlaps[chancel/api.Value]"], unfollowed := true, recurses := true, loops := true, plainKeys := false, apart := false }
def ValueMixedSaid : Prop := valueMixedRow.holds Try.pinned (OpenSpec.ofChange valueMixedSpec)

/-- ITS FALSE NEIGHBOUR: 'it returns false'. Refute it at one input. -/
def valueMixedWrong : ChangeSpec := { name := "valueMixed", fn := fun _ => fun
  | [d1, d2, d3] => { results := [.lit (.bool false)], args := [d1, d2, d3] }
  | _ => none }
def ValueMixedWrongFalsely : Prop := valueMixedRow.holds Try.pinned (OpenSpec.ofChange valueMixedWrong)

/-- 'chancellaw8.EntsGets': WHATEVER THE INPUT: true; the input reads as it did. -/
def entsGetsSpec : ChangeSpec := { name := "entsGets", fn := fun _ => fun
  | [d1, d2, d3] => { results := [.lit (.bool true)], args := [d1, d2, d3] }
  | _ => none }
def entsGetsRow : OpenClaim := { program := "ytfmghijmcgkpiaa", sum := "1452b9dd584e0f08182277184dd305e903af4ea69795f4aedea40e001778932a", func := "chancel/chancellaw8.EntsGets", spec := "entsGets", inPlace := ["slices.overlaps[chancel/api.Entity]"], unfollowed := true, recurses := true, loops := true, plainKeys := false, apart := false }
def EntsGetsSaid : Prop := entsGetsRow.holds Try.pinned (OpenSpec.ofChange entsGetsSpec)

/-- ITS FALSE NEIGHBOUR: 'it returns false'. Refute it at one input. -/
def entsGetsWrong : ChangeSpec := { name := "entsGets", fn := fun _ => fun
  | [d1, d2, d3] => { results := [.lit (.bool false)], args := [d1, d2, d3] }
  | _ => none }
def EntsGetsWrongFalsely : Prop := entsGetsRow.holds Try.pinned (OpenSpec.ofChange entsGetsWrong)

/-- 'chancellaw8.EntsOrder': WHATEVER THE INPUT: true; the input reads as it did. -/
def entsOrderSpec : ChangeSpec := { name := "entsOrder", fn := fun _ => fun
  | [d] => { results := [.lit (.bool true)], args := [d] }
  | _ => none }
def entsOrderRow : OpenClaim := { program := "ytfmghijmcgkpiaa", sum := "1452b9dd584e0f08182277184dd305e903af4ea69795f4aedea40e001778932a", func := "chancel/chancellaw8.EntsOrder", spec := "entsOrder", inPlace := ["slices.overlaps[chancel/api.Entity]"], unfollowed := true, recurses := true, loops := true, plainKeys := false, apart := false }
def EntsOrderSaid : Prop := entsOrderRow.holds Try.pinned (OpenSpec.ofChange entsOrderSpec)

/-- ITS FALSE NEIGHBOUR: 'it returns false'. Refute it at one input. -/
def entsOrderWrong : ChangeSpec := { name := "entsOrder", fn := fun _ => fun
  | [d] => { results := [.lit (.bool false)], args := [d] }
  | _ => none }
def EntsOrderWrongFalsely : Prop := entsOrderRow.holds Try.pinned (OpenSpec.ofChange entsOrderWrong)

/-- 'chancellaw8.EntsPlay': WHATEVER THE INPUT: true; the input reads as it did. -/
def entsPlaySpec : ChangeSpec := { name := "entsPlay", fn := fun _ => fun
  | [d1, d2, d3] => { results := [.lit (.bool true)], args := [d1, d2, d3] }
  | _ => none }
def entsPlayRow : OpenClaim := { program := "ytfmghijmcgkpiaa", sum := "1452b9dd584e0f08182277184dd305e903af4ea69795f4aedea40e001778932a", func := "chancel/chancellaw8.EntsPlay", spec := "entsPlay", inPlace := ["slices.overlaps[chancel/api.Entity]"], unfollowed := true, recurses := true, loops := true, plainKeys := false, apart := false }
def EntsPlaySaid : Prop := entsPlayRow.holds Try.pinned (OpenSpec.ofChange entsPlaySpec)

/-- ITS FALSE NEIGHBOUR: 'it returns false'. Refute it at one input. -/
def entsPlayWrong : ChangeSpec := { name := "entsPlay", fn := fun _ => fun
  | [d1, d2, d3] => { results := [.lit (.bool false)], args := [d1, d2, d3] }
  | _ => none }
def EntsPlayWrongFalsely : Prop := entsPlayRow.holds Try.pinned (OpenSpec.ofChange entsPlayWrong)

/-- 'chancellaw13.EvalSums': WHATEVER THE INPUT: true; the input reads as it did. -/
def evalSumsSpec : ChangeSpec := { name := "evalSums", fn := fun _ => fun
  | [d1, d2, d3, d4] => { results := [.lit (.bool true)], args := [d1, d2, d3, d4] }
  | _ => none }
def evalSumsRow : OpenClaim := { program := "ytfmghijmcgkpiaa", sum := "1452b9dd584e0f08182277184dd305e903af4ea69795f4aedea40e001778932a", func := "chancel/chancellaw13.EvalSums", spec := "evalSums", inPlace := ["slices.overlaps[chancel/api.Value]"], unfollowed := true, recurses := true, plainKeys := false, apart := false }
def EvalSumsSaid : Prop := evalSumsRow.holds Try.pinned (OpenSpec.ofChange evalSumsSpec)

/-- ITS FALSE NEIGHBOUR: 'it returns false'. Refute it at one input. -/
def evalSumsWrong : ChangeSpec := { name := "evalSums", fn := fun _ => fun
  | [d1, d2, d3, d4] => { results := [.lit (.bool false)], args := [d1, d2, d3, d4] }
  | _ => none }
def EvalSumsWrongFalsely : Prop := evalSumsRow.holds Try.pinned (OpenSpec.ofChange evalSumsWrong)

/-- 'chancellaw13.EvalSames': WHATEVER THE INPUT: true; the input reads as it did. -/
def evalSamesSpec : ChangeSpec := { name := "evalSames", fn := fun _ => fun
  | [d1, d2] => { results := [.lit (.bool true)], args := [d1, d2] }
  | _ => none }
def evalSamesRow : OpenClaim := { program := "ytfmghijmcgkpiaa", sum := "1452b9dd584e0f08182277184dd305e903af4ea69795f4aedea40e001778932a", func := "chancel/chancellaw13.EvalSames", spec := "evalSames", inPlace := ["slices.overlaps[chancel/api.Value]"], unfollowed := true, recurses := true, loops := true, plainKeys := false, apart := false }
def EvalSamesSaid : Prop := evalSamesRow.holds Try.pinned (OpenSpec.ofChange evalSamesSpec)

/-- ITS FALSE NEIGHBOUR: 'it returns false'. Refute it at one input. -/
def evalSamesWrong : ChangeSpec := { name := "evalSames", fn := fun _ => fun
  | [d1, d2] => { results := [.lit (.bool false)], args := [d1, d2] }
  | _ => none }
def EvalSamesWrongFalsely : Prop := evalSamesRow.holds Try.pinned (OpenSpec.ofChange evalSamesWrong)

/-- 'chancellaw13.EvalHas': WHATEVER THE INPUT: true; the input reads as it did. -/
def evalHasSpec : ChangeSpec := { name := "evalHas", fn := fun _ => fun
  | [d1, d2, d3, d4] => { results := [.lit (.bool true)], args := [d1, d2, d3, d4] }
  | _ => none }
def evalHasRow : OpenClaim := { program := "ytfmghijmcgkpiaa", sum := "1452b9dd584e0f08182277184dd305e903af4ea69795f4aedea40e001778932a", func := "chancel/chancellaw13.EvalHas", spec := "evalHas", inPlace := ["slices.overlaps[chancel/api.Value]"], unfollowed := true, recurses := true, loops := true, plainKeys := false, apart := false }
def EvalHasSaid : Prop := evalHasRow.holds Try.pinned (OpenSpec.ofChange evalHasSpec)

/-- ITS FALSE NEIGHBOUR: 'it returns false'. Refute it at one input. -/
def evalHasWrong : ChangeSpec := { name := "evalHas", fn := fun _ => fun
  | [d1, d2, d3, d4] => { results := [.lit (.bool false)], args := [d1, d2, d3, d4] }
  | _ => none }
def EvalHasWrongFalsely : Prop := evalHasRow.holds Try.pinned (OpenSpec.ofChange evalHasWrong)

/-- 'chancellaw13.EvalVars': WHATEVER THE INPUT: true; the input reads as it did. -/
def evalVarsSpec : ChangeSpec := { name := "evalVars", fn := fun _ => fun
  | [d1, d2] => { results := [.lit (.bool true)], args := [d1, d2] }
  | _ => none }
def evalVarsRow : OpenClaim := { program := "ytfmghijmcgkpiaa", sum := "1452b9dd584e0f08182277184dd305e903af4ea69795f4aedea40e001778932a", func := "chancel/chancellaw13.EvalVars", spec := "evalVars", inPlace := ["slices.overlaps[chancel/api.Value]"], unfollowed := true, recurses := true, plainKeys := false, apart := false }
def EvalVarsSaid : Prop := evalVarsRow.holds Try.pinned (OpenSpec.ofChange evalVarsSpec)

/-- ITS FALSE NEIGHBOUR: 'it returns false'. Refute it at one input. -/
def evalVarsWrong : ChangeSpec := { name := "evalVars", fn := fun _ => fun
  | [d1, d2] => { results := [.lit (.bool false)], args := [d1, d2] }
  | _ => none }
def EvalVarsWrongFalsely : Prop := evalVarsRow.holds Try.pinned (OpenSpec.ofChange evalVarsWrong)

/-- 'chancellaw9.AboveAsks': WHATEVER THE INPUT: true; the input reads as it did. -/
def aboveAsksSpec : ChangeSpec := { name := "aboveAsks", fn := fun _ => fun
  | [d1, d2, d3, d4] => { results := [.lit (.bool true)], args := [d1, d2, d3, d4] }
  | _ => none }
def aboveAsksRow : OpenClaim := { program := "ytfmghijmcgkpiaa", sum := "1452b9dd584e0f08182277184dd305e903af4ea69795f4aedea40e001778932a", func := "chancel/chancellaw9.AboveAsks", spec := "aboveAsks", inPlace := ["slices.overlaps[chancel/api.Entity]"], unfollowed := true, recurses := true, loops := true, plainKeys := false, apart := false }
def AboveAsksSaid : Prop := aboveAsksRow.holds Try.pinned (OpenSpec.ofChange aboveAsksSpec)

/-- ITS FALSE NEIGHBOUR: 'it returns false'. Refute it at one input. -/
def aboveAsksWrong : ChangeSpec := { name := "aboveAsks", fn := fun _ => fun
  | [d1, d2, d3, d4] => { results := [.lit (.bool false)], args := [d1, d2, d3, d4] }
  | _ => none }
def AboveAsksWrongFalsely : Prop := aboveAsksRow.holds Try.pinned (OpenSpec.ofChange aboveAsksWrong)

/-- 'chancellaw12.FitAsks': WHATEVER THE INPUT: true; the input reads as it did. -/
def fitAsksSpec : ChangeSpec := { name := "fitAsks", fn := fun _ => fun
  | [d1, d2, d3, d4, d5, d6, d7, d8] => { results := [.lit (.bool true)], args := [d1, d2, d3, d4, d5, d6, d7, d8] }
  | _ => none }
def fitAsksRow : OpenClaim := { program := "ytfmghijmcgkpiaa", sum := "1452b9dd584e0f08182277184dd305e903af4ea69795f4aedea40e001778932a", func := "chancel/chancellaw12.FitAsks", spec := "fitAsks", inPlace := ["slices.overlaps[chancel/api.Entity]"], unfollowed := true, recurses := true, loops := true, plainKeys := false, apart := false }
def FitAsksSaid : Prop := fitAsksRow.holds Try.pinned (OpenSpec.ofChange fitAsksSpec)

/-- ITS FALSE NEIGHBOUR: 'it returns false'. Refute it at one input. -/
def fitAsksWrong : ChangeSpec := { name := "fitAsks", fn := fun _ => fun
  | [d1, d2, d3, d4, d5, d6, d7, d8] => { results := [.lit (.bool false)], args := [d1, d2, d3, d4, d5, d6, d7, d8] }
  | _ => none }
def FitAsksWrongFalsely : Prop := fitAsksRow.holds Try.pinned (OpenSpec.ofChange fitAsksWrong)

/-- 'chancellaw14.DecideCounts': WHATEVER THE INPUT: true; the input reads as it did. -/
def decideCountsSpec : ChangeSpec := { name := "decideCounts", fn := fun _ => fun
  | [d] => { results := [.lit (.bool true)], args := [d] }
  | _ => none }
def decideCountsRow : OpenClaim := { program := "ytfmghijmcgkpiaa", sum := "1452b9dd584e0f08182277184dd305e903af4ea69795f4aedea40e001778932a", func := "chancel/chancellaw14.DecideCounts", spec := "decideCounts", inPlace := ["slices.overlaps[chancel/api.Value]"], unfollowed := true, recurses := true, plainKeys := false, apart := false }
def DecideCountsSaid : Prop := decideCountsRow.holds Try.pinned (OpenSpec.ofChange decideCountsSpec)

/-- ITS FALSE NEIGHBOUR: 'it returns false'. Refute it at one input. -/
def decideCountsWrong : ChangeSpec := { name := "decideCounts", fn := fun _ => fun
  | [d] => { results := [.lit (.bool false)], args := [d] }
  | _ => none }
def DecideCountsWrongFalsely : Prop := decideCountsRow.holds Try.pinned (OpenSpec.ofChange decideCountsWrong)

/- THE SECOND FORM. 'bulk': how many values and letters a reading holds, each counted each time it is reached (what is shared counts as often as it is met; a slice's spare places count too). A statement '..UptoSaid' is the law's where the arguments, and the package variables that the reading takes, are together of bulk at most 1048576: NARROWER than '..Said'. Prove '..Said' where nothing that the law and all that it calls make is longer than what came in: it says more and counts as full. Else prove '..UptoSaid'. A law counts once. -/
mutual
def uptoBulk {H : Type} : DataW H → Nat
  | .lit (.string bytes) => bytes.length + 1
  | .lit _ => 1
  | .nil => 1
  | .ptr d => uptoBulk d + 1
  | .slice elems spare => uptoBulkAll elems + uptoBulkAll spare + 1
  | .agg parts => uptoBulkAll parts + 1
  | .iface _ d => uptoBulk d + 1
  | .map entries => uptoBulkEntries entries + 1
  | .held _ => 1
def uptoBulkAll {H : Type} : List (DataW H) → Nat
  | [] => 0
  | d :: r => uptoBulk d + uptoBulkAll r
def uptoBulkEntries {H : Type} : List (Lit × DataW H) → Nat
  | [] => 0
  | x :: r => uptoBulkEntry x + uptoBulkEntries r
def uptoBulkEntry {H : Type} : Lit × DataW H → Nat
  | (.string bytes, d) => bytes.length + uptoBulk d + 1
  | (_, d) => uptoBulk d + 1
 end
def uptoSmall : (H : Type) → List (DataW H) → Bool := fun _ ds => decide (uptoBulkAll ds ≤ 1048576)
def OpenSpec.upto (s : _root_.Go.ChangeSpec) : _root_.Go.OpenSpec := { _root_.Go.OpenSpec.ofChange s with cond := some uptoSmall }

/-- 'chancellaw3.ValueOrder', WHERE WHAT IT READS IS OF BULK AT MOST 1048576: true; the input reads as it did. -/
def valueOrderUptoRow : OpenClaim := { program := "ytfmghijmcgkpiaa", sum := "1452b9dd584e0f08182277184dd305e903af4ea69795f4aedea40e001778932a", func := "chancel/chancellaw3.ValueOrder", spec := "valueOrder", inPlace := ["slices.overlaps[chancel/api.Value]"], unfollowed := true, recurses := true, loops := true, plainKeys := false, apart := false, narrowed := true }
def ValueOrderUptoSaid : Prop := valueOrderUptoRow.holds Try.pinned (OpenSpec.upto valueOrderSpec)

/-- 'chancellaw3.ValueMixed', WHERE WHAT IT READS IS OF BULK AT MOST 1048576: true; the input reads as it did. -/
def valueMixedUptoRow : OpenClaim := { program := "ytfmghijmcgkpiaa", sum := "1452b9dd584e0f08182277184dd305e903af4ea69795f4aedea40e001778932a", func := "chancel/chancellaw3.ValueMixed", spec := "valueMixed", inPlace := ["slices.overlaps[chancel/api.Value]"], unfollowed := true, recurses := true, loops := true, plainKeys := false, apart := false, narrowed := true }
def ValueMixedUptoSaid : Prop := valueMixedUptoRow.holds Try.pinned (OpenSpec.upto valueMixedSpec)

/-- 'chancellaw8.EntsGets', WHERE WHAT IT READS IS OF BULK AT MOST 1048576: true; the input reads as it did. -/
def entsGetsUptoRow : OpenClaim := { program := "ytfmghijmcgkpiaa", sum := "1452b9dd584e0f08182277184dd305e903af4ea69795f4aedea40e001778932a", func := "chancel/chancellaw8.EntsGets", spec := "entsGets", inPlace := ["slices.overlaps[chancel/api.Entity]"], unfollowed := true, recurses := true, loops := true, plainKeys := false, apart := false, narrowed := true }
def EntsGetsUptoSaid : Prop := entsGetsUptoRow.holds Try.pinned (OpenSpec.upto entsGetsSpec)

/-- 'chancellaw8.EntsOrder', WHERE WHAT IT READS IS OF BULK AT MOST 1048576: true; the input reads as it did. -/
def entsOrderUptoRow : OpenClaim := { program := "ytfmghijmcgkpiaa", sum := "1452b9dd584e0f08182277184dd305e903af4ea69795f4aedea40e001778932a", func := "chancel/chancellaw8.EntsOrder", spec := "entsOrder", inPlace := ["slices.overlaps[chancel/api.Entity]"], unfollowed := true, recurses := true, loops := true, plainKeys := false, apart := false, narrowed := true }
def EntsOrderUptoSaid : Prop := entsOrderUptoRow.holds Try.pinned (OpenSpec.upto entsOrderSpec)

/-- 'chancellaw8.EntsPlay', WHERE WHAT IT READS IS OF BULK AT MOST 1048576: true; the input reads as it did. -/
def entsPlayUptoRow : OpenClaim := { program := "ytfmghijmcgkpiaa", sum := "1452b9dd584e0f08182277184dd305e903af4ea69795f4aedea40e001778932a", func := "chancel/chancellaw8.EntsPlay", spec := "entsPlay", inPlace := ["slices.overlaps[chancel/api.Entity]"], unfollowed := true, recurses := true, loops := true, plainKeys := false, apart := false, narrowed := true }
def EntsPlayUptoSaid : Prop := entsPlayUptoRow.holds Try.pinned (OpenSpec.upto entsPlaySpec)

/-- 'chancellaw13.EvalSums', WHERE WHAT IT READS IS OF BULK AT MOST 1048576: true; the input reads as it did. -/
def evalSumsUptoRow : OpenClaim := { program := "ytfmghijmcgkpiaa", sum := "1452b9dd584e0f08182277184dd305e903af4ea69795f4aedea40e001778932a", func := "chancel/chancellaw13.EvalSums", spec := "evalSums", inPlace := ["slices.overlaps[chancel/api.Value]"], unfollowed := true, recurses := true, plainKeys := false, apart := false, narrowed := true }
def EvalSumsUptoSaid : Prop := evalSumsUptoRow.holds Try.pinned (OpenSpec.upto evalSumsSpec)

/-- 'chancellaw13.EvalSames', WHERE WHAT IT READS IS OF BULK AT MOST 1048576: true; the input reads as it did. -/
def evalSamesUptoRow : OpenClaim := { program := "ytfmghijmcgkpiaa", sum := "1452b9dd584e0f08182277184dd305e903af4ea69795f4aedea40e001778932a", func := "chancel/chancellaw13.EvalSames", spec := "evalSames", inPlace := ["slices.overlaps[chancel/api.Value]"], unfollowed := true, recurses := true, loops := true, plainKeys := false, apart := false, narrowed := true }
def EvalSamesUptoSaid : Prop := evalSamesUptoRow.holds Try.pinned (OpenSpec.upto evalSamesSpec)

/-- 'chancellaw13.EvalHas', WHERE WHAT IT READS IS OF BULK AT MOST 1048576: true; the input reads as it did. -/
def evalHasUptoRow : OpenClaim := { program := "ytfmghijmcgkpiaa", sum := "1452b9dd584e0f08182277184dd305e903af4ea69795f4aedea40e001778932a", func := "chancel/chancellaw13.EvalHas", spec := "evalHas", inPlace := ["slices.overlaps[chancel/api.Value]"], unfollowed := true, recurses := true, loops := true, plainKeys := false, apart := false, narrowed := true }
def EvalHasUptoSaid : Prop := evalHasUptoRow.holds Try.pinned (OpenSpec.upto evalHasSpec)

/-- 'chancellaw13.EvalVars', WHERE WHAT IT READS IS OF BULK AT MOST 1048576: true; the input reads as it did. -/
def evalVarsUptoRow : OpenClaim := { program := "ytfmghijmcgkpiaa", sum := "1452b9dd584e0f08182277184dd305e903af4ea69795f4aedea40e001778932a", func := "chancel/chancellaw13.EvalVars", spec := "evalVars", inPlace := ["slices.overlaps[chancel/api.Value]"], unfollowed := true, recurses := true, plainKeys := false, apart := false, narrowed := true }
def EvalVarsUptoSaid : Prop := evalVarsUptoRow.holds Try.pinned (OpenSpec.upto evalVarsSpec)

/-- 'chancellaw9.AboveAsks', WHERE WHAT IT READS IS OF BULK AT MOST 1048576: true; the input reads as it did. -/
def aboveAsksUptoRow : OpenClaim := { program := "ytfmghijmcgkpiaa", sum := "1452b9dd584e0f08182277184dd305e903af4ea69795f4aedea40e001778932a", func := "chancel/chancellaw9.AboveAsks", spec := "aboveAsks", inPlace := ["slices.overlaps[chancel/api.Entity]"], unfollowed := true, recurses := true, loops := true, plainKeys := false, apart := false, narrowed := true }
def AboveAsksUptoSaid : Prop := aboveAsksUptoRow.holds Try.pinned (OpenSpec.upto aboveAsksSpec)

/-- 'chancellaw12.FitAsks', WHERE WHAT IT READS IS OF BULK AT MOST 1048576: true; the input reads as it did. -/
def fitAsksUptoRow : OpenClaim := { program := "ytfmghijmcgkpiaa", sum := "1452b9dd584e0f08182277184dd305e903af4ea69795f4aedea40e001778932a", func := "chancel/chancellaw12.FitAsks", spec := "fitAsks", inPlace := ["slices.overlaps[chancel/api.Entity]"], unfollowed := true, recurses := true, loops := true, plainKeys := false, apart := false, narrowed := true }
def FitAsksUptoSaid : Prop := fitAsksUptoRow.holds Try.pinned (OpenSpec.upto fitAsksSpec)

/-- 'chancellaw14.DecideCounts', WHERE WHAT IT READS IS OF BULK AT MOST 1048576: true; the input reads as it did. -/
def decideCountsUptoRow : OpenClaim := { program := "ytfmghijmcgkpiaa", sum := "1452b9dd584e0f08182277184dd305e903af4ea69795f4aedea40e001778932a", func := "chancel/chancellaw14.DecideCounts", spec := "decideCounts", inPlace := ["slices.overlaps[chancel/api.Value]"], unfollowed := true, recurses := true, plainKeys := false, apart := false, narrowed := true }
def DecideCountsUptoSaid : Prop := decideCountsUptoRow.holds Try.pinned (OpenSpec.upto decideCountsSpec)

end Rows
end Go.Proofs.Ytfmghijmcgkpiaa
