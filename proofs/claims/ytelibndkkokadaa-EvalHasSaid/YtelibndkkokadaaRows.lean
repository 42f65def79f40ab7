/-
  NARROWER THAN 'FOR EVERY INPUT', by the rows' own cells (each row's printed sentence says how): AboveAsks: loops · AboveGoes: loops · AboveMore: loops · AboveBelow: loops · AboveCircles: loops · EntsGets: loops · EntsPlay: loops · EvalHas: loops.
  DERIVED. THE GIVEN ROWS OF THIS SEAT. 10 by the template 'for every input the law returns true; each argument reads behind the call as it read before'; 0 by the template 'total and deterministic' (their statements: YtelibndkkokadaaTotals.lean).
  GIVEN WITH THE SEED: the statements are not yours to turn. If you find one false, say at which input.
  Laid BY PROGRAM, IN A SANDBOX (cutbox-rows.mjs): the forced cells as the released guide's own fill.sh prints them over the translation 5e63332916d22c5b… (all of the seat's roots in one cut). By AI agents, Wed Nov 11 2026. No macro, syntax, notation, axiom, sorry.
-/
import Derived.Test.YtelibndkkokadaaChecked
import GoSem.Claim
import GoSem.ClaimJoined
import GoSem.ClaimMapViews
import Derived.JoinedTies
import Derived.KernelRfl
namespace Go.Proofs.Ytelibndkkokadaa
/- THE CELL 'sum', in the pinned program and in every row, IS THE sha256 OF THE DUMP (.gsa) THAT YtelibndkkokadaaProg.lean LOADS. Nothing in Lean hashes anything: it is a label: what it is worth is what the hold of that sum in a sandbox is worth. -/
noncomputable def Try.pinned : Pinned := { name := "ytelibndkkokadaa", sum := "5e63332916d22c5b8c1d493913728c3e9e47f97b8d376bc147180a96805fd432", checked := Try.checked }
namespace Rows
def none {H : Type} : Left H := { results := [], args := [] }

/-- 'chancellaw9.AboveAsks': WHATEVER THE INPUT: true; the input reads as it did. -/
def aboveAsksSpec : ChangeSpec := { name := "aboveAsks", fn := fun _ => fun
  | [d1, d2, d3, d4] => { results := [.lit (.bool true)], args := [d1, d2, d3, d4] }
  | _ => none }
def aboveAsksRow : OpenClaim := { program := "ytelibndkkokadaa", sum := "5e63332916d22c5b8c1d493913728c3e9e47f97b8d376bc147180a96805fd432", func := "chancel/chancellaw9.AboveAsks", spec := "aboveAsks", inPlace := ["slices.overlaps[chancel/api.Entity]"], unfollowed := true, recurses := true, loops := true, plainKeys := false, apart := false }
def AboveAsksSaid : Prop := aboveAsksRow.holds Try.pinned (OpenSpec.ofChange aboveAsksSpec)

/-- ITS FALSE NEIGHBOUR: 'it returns false'. Refute it at one input. -/
def aboveAsksWrong : ChangeSpec := { name := "aboveAsks", fn := fun _ => fun
  | [d1, d2, d3, d4] => { results := [.lit (.bool false)], args := [d1, d2, d3, d4] }
  | _ => none }
def AboveAsksWrongFalsely : Prop := aboveAsksRow.holds Try.pinned (OpenSpec.ofChange aboveAsksWrong)

/-- 'chancellaw9.AboveGoes': WHATEVER THE INPUT: true; the input reads as it did. -/
def aboveGoesSpec : ChangeSpec := { name := "aboveGoes", fn := fun _ => fun
  | [d] => { results := [.lit (.bool true)], args := [d] }
  | _ => none }
def aboveGoesRow : OpenClaim := { program := "ytelibndkkokadaa", sum := "5e63332916d22c5b8c1d493913728c3e9e47f97b8d376bc147180a96805fd432", func := "chancel/chancellaw9.AboveGoes", spec := "aboveGoes", unfollowed := true, recurses := true, loops := true, plainKeys := false, apart := false }
def AboveGoesSaid : Prop := aboveGoesRow.holds Try.pinned (OpenSpec.ofChange aboveGoesSpec)

/-- ITS FALSE NEIGHBOUR: 'it returns false'. Refute it at one input. -/
def aboveGoesWrong : ChangeSpec := { name := "aboveGoes", fn := fun _ => fun
  | [d] => { results := [.lit (.bool false)], args := [d] }
  | _ => none }
def AboveGoesWrongFalsely : Prop := aboveGoesRow.holds Try.pinned (OpenSpec.ofChange aboveGoesWrong)

/-- 'chancellaw9.AboveMore': WHATEVER THE INPUT: true; the input reads as it did. -/
def aboveMoreSpec : ChangeSpec := { name := "aboveMore", fn := fun _ => fun
  | [d1, d2, d3] => { results := [.lit (.bool true)], args := [d1, d2, d3] }
  | _ => none }
def aboveMoreRow : OpenClaim := { program := "ytelibndkkokadaa", sum := "5e63332916d22c5b8c1d493913728c3e9e47f97b8d376bc147180a96805fd432", func := "chancel/chancellaw9.AboveMore", spec := "aboveMore", unfollowed := true, recurses := true, loops := true, plainKeys := false, apart := false }
def AboveMoreSaid : Prop := aboveMoreRow.holds Try.pinned (OpenSpec.ofChange aboveMoreSpec)

/-- ITS FALSE NEIGHBOUR: 'it returns false'. Refute it at one input. -/
def aboveMoreWrong : ChangeSpec := { name := "aboveMore", fn := fun _ => fun
  | [d1, d2, d3] => { results := [.lit (.bool false)], args := [d1, d2, d3] }
  | _ => none }
def AboveMoreWrongFalsely : Prop := aboveMoreRow.holds Try.pinned (OpenSpec.ofChange aboveMoreWrong)

/-- 'chancellaw9.AboveBelow': WHATEVER THE INPUT: true; the input reads as it did. -/
def aboveBelowSpec : ChangeSpec := { name := "aboveBelow", fn := fun _ => fun
  | [d1, d2] => { results := [.lit (.bool true)], args := [d1, d2] }
  | _ => none }
def aboveBelowRow : OpenClaim := { program := "ytelibndkkokadaa", sum := "5e63332916d22c5b8c1d493913728c3e9e47f97b8d376bc147180a96805fd432", func := "chancel/chancellaw9.AboveBelow", spec := "aboveBelow", unfollowed := true, recurses := true, loops := true, plainKeys := false, apart := false }
def AboveBelowSaid : Prop := aboveBelowRow.holds Try.pinned (OpenSpec.ofChange aboveBelowSpec)

/-- ITS FALSE NEIGHBOUR: 'it returns false'. Refute it at one input. -/
def aboveBelowWrong : ChangeSpec := { name := "aboveBelow", fn := fun _ => fun
  | [d1, d2] => { results := [.lit (.bool false)], args := [d1, d2] }
  | _ => none }
def AboveBelowWrongFalsely : Prop := aboveBelowRow.holds Try.pinned (OpenSpec.ofChange aboveBelowWrong)

/-- 'chancellaw9.AboveCircles': WHATEVER THE INPUT: true; the input reads as it did. -/
def aboveCirclesSpec : ChangeSpec := { name := "aboveCircles", fn := fun _ => fun
  | [d1, d2, d3] => { results := [.lit (.bool true)], args := [d1, d2, d3] }
  | _ => none }
def aboveCirclesRow : OpenClaim := { program := "ytelibndkkokadaa", sum := "5e63332916d22c5b8c1d493913728c3e9e47f97b8d376bc147180a96805fd432", func := "chancel/chancellaw9.AboveCircles", spec := "aboveCircles", inPlace := ["slices.overlaps[chancel/api.Entity]"], unfollowed := true, recurses := true, loops := true, plainKeys := false, apart := false }
def AboveCirclesSaid : Prop := aboveCirclesRow.holds Try.pinned (OpenSpec.ofChange aboveCirclesSpec)

/-- ITS FALSE NEIGHBOUR: 'it returns false'. Refute it at one input. -/
def aboveCirclesWrong : ChangeSpec := { name := "aboveCircles", fn := fun _ => fun
  | [d1, d2, d3] => { results := [.lit (.bool false)], args := [d1, d2, d3] }
  | _ => none }
def AboveCirclesWrongFalsely : Prop := aboveCirclesRow.holds Try.pinned (OpenSpec.ofChange aboveCirclesWrong)

/-- 'chancellaw9.AboveChain': WHATEVER THE INPUT: true; the input reads as it did. -/
def aboveChainSpec : ChangeSpec := { name := "aboveChain", fn := fun _ => fun
  | [d1, d2, d3] => { results := [.lit (.bool true)], args := [d1, d2, d3] }
  | _ => none }
def aboveChainRow : OpenClaim := { program := "ytelibndkkokadaa", sum := "5e63332916d22c5b8c1d493913728c3e9e47f97b8d376bc147180a96805fd432", func := "chancel/chancellaw9.AboveChain", spec := "aboveChain", inPlace := ["slices.overlaps[chancel/api.Entity]"], unfollowed := true, recurses := true, plainKeys := false, apart := false }
def AboveChainSaid : Prop := aboveChainRow.holds Try.pinned (OpenSpec.ofChange aboveChainSpec)

/-- ITS FALSE NEIGHBOUR: 'it returns false'. Refute it at one input. -/
def aboveChainWrong : ChangeSpec := { name := "aboveChain", fn := fun _ => fun
  | [d1, d2, d3] => { results := [.lit (.bool false)], args := [d1, d2, d3] }
  | _ => none }
def AboveChainWrongFalsely : Prop := aboveChainRow.holds Try.pinned (OpenSpec.ofChange aboveChainWrong)

/-- 'chancellaw8.EntsGets': WHATEVER THE INPUT: true; the input reads as it did. -/
def entsGetsSpec : ChangeSpec := { name := "entsGets", fn := fun _ => fun
  | [d1, d2, d3] => { results := [.lit (.bool true)], args := [d1, d2, d3] }
  | _ => none }
def entsGetsRow : OpenClaim := { program := "ytelibndkkokadaa", sum := "5e63332916d22c5b8c1d493913728c3e9e47f97b8d376bc147180a96805fd432", func := "chancel/chancellaw8.EntsGets", spec := "entsGets", inPlace := ["slices.overlaps[chancel/api.Entity]"], unfollowed := true, recurses := true, loops := true, plainKeys := false, apart := false }
def EntsGetsSaid : Prop := entsGetsRow.holds Try.pinned (OpenSpec.ofChange entsGetsSpec)

/-- ITS FALSE NEIGHBOUR: 'it returns false'. Refute it at one input. -/
def entsGetsWrong : ChangeSpec := { name := "entsGets", fn := fun _ => fun
  | [d1, d2, d3] => { results := [.lit (.bool false)], args := [d1, d2, d3] }
  | _ => none }
def EntsGetsWrongFalsely : Prop := entsGetsRow.holds Try.pinned (OpenSpec.ofChange entsGetsWrong)

/-- 'chancellaw8.EntsPlay': WHATEVER THE INPUT: true; the input reads as it did. -/
def entsPlaySpec : ChangeSpec := { name := "entsPlay", fn := fun _ => fun
  | [d1, d2, d3] => { results := [.lit (.bool true)], args := [d1, d2, d3] }
  | _ => none }
def entsPlayRow : OpenClaim := { program := "ytelibndkkokadaa", sum := "5e63332916d22c5b8c1d493913728c3e9e47f97b8d376bc147180a96805fd432", func := "chancel/chancellaw8.EntsPlay", spec := "entsPlay", inPlace := ["slices.overlaps[chancel/api.Entity]"], unfollowed := true, recurses := true, loops := true, plainKeys := false, apart := false }
def EntsPlaySaid : Prop := entsPlayRow.holds Try.pinned (OpenSpec.ofChange entsPlaySpec)

/-- ITS FALSE NEIGHBOUR: 'it returns false'. Refute it at one input. -/
def entsPlayWrong : ChangeSpec := { name := "entsPlay", fn := fun _ => fun
  | [d1, d2, d3] => { results := [.lit (.bool false)], args := [d1, d2, d3] }
  | _ => none }
def EntsPlayWrongFalsely : Prop := entsPlayRow.holds Try.pinned (OpenSpec.ofChange entsPlayWrong)

/-- 'chancellaw13.EvalHas': WHATEVER THE INPUT: true; the input reads as it did. -/
def evalHasSpec : ChangeSpec := { name := "evalHas", fn := fun _ => fun
  | [d1, d2, d3, d4] => { results := [.lit (.bool true)], args := [d1, d2, d3, d4] }
  | _ => none }
def evalHasRow : OpenClaim := { program := "ytelibndkkokadaa", sum := "5e63332916d22c5b8c1d493913728c3e9e47f97b8d376bc147180a96805fd432", func := "chancel/chancellaw13.EvalHas", spec := "evalHas", inPlace := ["slices.overlaps[chancel/api.Value]"], unfollowed := true, recurses := true, loops := true, plainKeys := false, apart := false }
def EvalHasSaid : Prop := evalHasRow.holds Try.pinned (OpenSpec.ofChange evalHasSpec)

/-- ITS FALSE NEIGHBOUR: 'it returns false'. Refute it at one input. -/
def evalHasWrong : ChangeSpec := { name := "evalHas", fn := fun _ => fun
  | [d1, d2, d3, d4] => { results := [.lit (.bool false)], args := [d1, d2, d3, d4] }
  | _ => none }
def EvalHasWrongFalsely : Prop := evalHasRow.holds Try.pinned (OpenSpec.ofChange evalHasWrong)

/-- 'chancellaw13.EvalVars': WHATEVER THE INPUT: true; the input reads as it did. -/
def evalVarsSpec : ChangeSpec := { name := "evalVars", fn := fun _ => fun
  | [d1, d2] => { results := [.lit (.bool true)], args := [d1, d2] }
  | _ => none }
def evalVarsRow : OpenClaim := { program := "ytelibndkkokadaa", sum := "5e63332916d22c5b8c1d493913728c3e9e47f97b8d376bc147180a96805fd432", func := "chancel/chancellaw13.EvalVars", spec := "evalVars", inPlace := ["slices.overlaps[chancel/api.Value]"], unfollowed := true, recurses := true, plainKeys := false, apart := false }
def EvalVarsSaid : Prop := evalVarsRow.holds Try.pinned (OpenSpec.ofChange evalVarsSpec)

/-- ITS FALSE NEIGHBOUR: 'it returns false'. Refute it at one input. -/
def evalVarsWrong : ChangeSpec := { name := "evalVars", fn := fun _ => fun
  | [d1, d2] => { results := [.lit (.bool false)], args := [d1, d2] }
  | _ => none }
def EvalVarsWrongFalsely : Prop := evalVarsRow.holds Try.pinned (OpenSpec.ofChange evalVarsWrong)

/- THE SECOND FORM. 'bulk': how many values and letters a reading holds, each counted each time it is reached (what is shared counts as often as it is met; a slice's spare places count too). A statement '..UptoSaid' is the law's where the arguments, and the package variables that the reading takes, are together of bulk at most 1048576: NARROWER than '..Said'. Prove '..Said' where nothing that the law and all that it calls make is longer than what came in: it says more and counts as full. Else prove '..UptoSaid'. A law counts once. -/
mutual
def uptoBulk {H : Type} : DataW H → Nat
  | .lit (.string bytes) => bytes.length + 1
  | .lit _ => 1
  | .nil => 1
  | .ptr d => uptoBulk d + 1
  | .slice elems spare => uptoBulkAll elems + uptoBulkAll spare + 1
  | .agg parts => uptoBulkAll parts + 1
  | .iface _ d => uptoBulk d + 1
  | .map entries => uptoBulkEntries entries + 1
  | .held _ => 1
def uptoBulkAll {H : Type} : List (DataW H) → Nat
  | [] => 0
  | d :: r => uptoBulk d + uptoBulkAll r
def uptoBulkEntries {H : Type} : List (Lit × DataW H) → Nat
  | [] => 0
  | x :: r => uptoBulkEntry x + uptoBulkEntries r
def uptoBulkEntry {H : Type} : Lit × DataW H → Nat
  | (.string bytes, d) => bytes.length + uptoBulk d + 1
  | (_, d) => uptoBulk d + 1
 end
def uptoSmall : (H : Type) → List (DataW H) → Bool := fun _ ds => decide (uptoBulkAll ds ≤ 1048576)
def OpenSpec.upto (s : _root_.Go.ChangeSpec) : _root_.Go.OpenSpec := { _root_.Go.OpenSpec.ofChange s with cond := some uptoSmall }

/-- 'chancellaw9.AboveAsks', WHERE WHAT IT READS IS OF BULK AT MOST 1048576: true; the input reads as it did. -/
def aboveAsksUptoRow : OpenClaim := { program := "ytelibndkkokadaa", sum := "5e63332916d22c5b8c1d493913728c3e9e47f97b8d376bc147180a96805fd432", func := "chancel/chancellaw9.AboveAsks", spec := "aboveAsks", inPlace := ["slices.overlaps[chancel/api.Entity]"], unfollowed := true, recurses := true, loops := true, plainKeys := false, apart := false, narrowed := true }
def AboveAsksUptoSaid : Prop := aboveAsksUptoRow.holds Try.pinned (OpenSpec.upto aboveAsksSpec)

/-- 'chancellaw9.AboveGoes', WHERE WHAT IT READS IS OF BULK AT MOST 1048576: true; the input reads as it did. -/
def aboveGoesUptoRow : OpenClaim := { program := "ytelibndkkokadaa", sum := "5e63332916d22c5b8c1d493913728c3e9e47f97b8d376bc147180a96805fd432", func := "chancel/chancellaw9.AboveGoes", spec := "aboveGoes", unfollowed := true, recurses := true, loops := true, plainKeys := false, apart := false, narrowed := true }
def AboveGoesUptoSaid : Prop := aboveGoesUptoRow.holds Try.pinned (OpenSpec.upto aboveGoesSpec)

/-- 'chancellaw9.AboveMore', WHERE WHAT IT READS IS OF BULK AT MOST 1048576: true; the input reads as it did. -/
def aboveMoreUptoRow : OpenClaim := { program := "ytelibndkkokadaa", sum := "5e63332916d22c5b8c1d493913728c3e9e47f97b8d376bc147180a96805fd432", func := "chancel/chancellaw9.AboveMore", spec := "aboveMore", unfollowed := true, recurses := true, loops := true, plainKeys := false, apart := false, narrowed := true }
def AboveMoreUptoSaid : Prop := aboveMoreUptoRow.holds Try.pinned (OpenSpec.upto aboveMoreSpec)

/-- 'chancellaw9.AboveBelow', WHERE WHAT IT READS IS OF BULK AT MOST 1048576: true; the input reads as it did. -/
def aboveBelowUptoRow : OpenClaim := { program := "ytelibndkkokadaa", sum := "5e63332916d22c5b8c1d493913728c3e9e47f97b8d376bc147180a96805fd432", func := "chancel/chancellaw9.AboveBelow", spec := "aboveBelow", unfollowed := true, recurses := true, loops := true, plainKeys := false, apart := false, narrowed := true }
def AboveBelowUptoSaid : Prop := aboveBelowUptoRow.holds Try.pinned (OpenSpec.upto aboveBelowSpec)

/-- 'chancellaw9.AboveCircles', WHERE WHAT IT READS IS OF BULK AT MOST 1048576: true; the input reads as it did. -/
def aboveCirclesUptoRow : OpenClaim := { program := "ytelibndkkokadaa", sum := "5e63332916d22c5b8c1d493913728c3e9e47f97b8d376bc147180a96805fd432", func := "chancel/chancellaw9.AboveCircles", spec := "aboveCircles", inPlace := ["slices.overlaps[chancel/api.Entity]"], unfollowed := true, recurses := true, loops := true, plainKeys := false, apart := false, narrowed := true }
def AboveCirclesUptoSaid : Prop := aboveCirclesUptoRow.holds Try.pinned (OpenSpec.upto aboveCirclesSpec)

/-- 'chancellaw9.AboveChain', WHERE WHAT IT READS IS OF BULK AT MOST 1048576: true; the input reads as it did. -/
def aboveChainUptoRow : OpenClaim := { program := "ytelibndkkokadaa", sum := "5e63332916d22c5b8c1d493913728c3e9e47f97b8d376bc147180a96805fd432", func := "chancel/chancellaw9.AboveChain", spec := "aboveChain", inPlace := ["slices.overlaps[chancel/api.Entity]"], unfollowed := true, recurses := true, plainKeys := false, apart := false, narrowed := true }
def AboveChainUptoSaid : Prop := aboveChainUptoRow.holds Try.pinned (OpenSpec.upto aboveChainSpec)

/-- 'chancellaw8.EntsGets', WHERE WHAT IT READS IS OF BULK AT MOST 1048576: true; the input reads as it did. -/
def entsGetsUptoRow : OpenClaim := { program := "ytelibndkkokadaa", sum := "5e63332916d22c5b8c1d493913728c3e9e47f97b8d376bc147180a96805fd432", func := "chancel/chancellaw8.EntsGets", spec := "entsGets", inPlace := ["slices.overlaps[chancel/api.Entity]"], unfollowed := true, recurses := true, loops := true, plainKeys := false, apart := false, narrowed := true }
def EntsGetsUptoSaid : Prop := entsGetsUptoRow.holds Try.pinned (OpenSpec.upto entsGetsSpec)

/-- 'chancellaw8.EntsPlay', WHERE WHAT IT READS IS OF BULK AT MOST 1048576: true; the input reads as it did. -/
def entsPlayUptoRow : OpenClaim := { program := "ytelibndkkokadaa", sum := "5e63332916d22c5b8c1d493913728c3e9e47f97b8d376bc147180a96805fd432", func := "chancel/chancellaw8.EntsPlay", spec := "entsPlay", inPlace := ["slices.overlaps[chancel/api.Entity]"], unfollowed := true, recurses := true, loops := true, plainKeys := false, apart := false, narrowed := true }
def EntsPlayUptoSaid : Prop := entsPlayUptoRow.holds Try.pinned (OpenSpec.upto entsPlaySpec)

/-- 'chancellaw13.EvalHas', WHERE WHAT IT READS IS OF BULK AT MOST 1048576: true; the input reads as it did. -/
def evalHasUptoRow : OpenClaim := { program := "ytelibndkkokadaa", sum := "5e63332916d22c5b8c1d493913728c3e9e47f97b8d376bc147180a96805fd432", func := "chancel/chancellaw13.EvalHas", spec := "evalHas", inPlace := ["slices.overlaps[chancel/api.Value]"], unfollowed := true, recurses := true, loops := true, plainKeys := false, apart := false, narrowed := true }
def EvalHasUptoSaid : Prop := evalHasUptoRow.holds Try.pinned (OpenSpec.upto evalHasSpec)

/-- 'chancellaw13.EvalVars', WHERE WHAT IT READS IS OF BULK AT MOST 1048576: true; the input reads as it did. -/
def evalVarsUptoRow : OpenClaim := { program := "ytelibndkkokadaa", sum := "5e63332916d22c5b8c1d493913728c3e9e47f97b8d376bc147180a96805fd432", func := "chancel/chancellaw13.EvalVars", spec := "evalVars", inPlace := ["slices.overlaps[chancel/api.Value]"], unfollowed := true, recurses := true, plainKeys := false, apart := false, narrowed := true }
def EvalVarsUptoSaid : Prop := evalVarsUptoRow.holds Try.pinned (OpenSpec.upto evalVarsSpec)

end Rows
end Go.Proofs.Ytelibndkkokadaa
