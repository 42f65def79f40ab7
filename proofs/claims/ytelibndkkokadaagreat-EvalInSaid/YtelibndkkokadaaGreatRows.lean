/-
  NARROWER THAN 'FOR EVERY INPUT', by the rows' own cells (each row's printed sentence says how): EvalIn: loops · DecideScopes: loops.
  DERIVED. THE GIVEN ROWS OF THIS SEAT. 2 by the template 'for every input the law returns true; each argument reads behind the call as it read before'; 0 by the template 'total and deterministic' (their statements: YtelibndkkokadaaGreatTotals.lean).
  GIVEN WITH THE SEED: the statements are not yours to turn. If you find one false, say at which input.
  Laid BY PROGRAM, IN A SANDBOX (cutbox-rows.mjs): the forced cells as the released guide's own fill.sh prints them over the translation 1f100e45553dec59… (all of the seat's roots in one cut). By AI agents, Wed Nov 11 2026. No macro, syntax, notation, axiom, sorry.
-/
import Derived.Test.YtelibndkkokadaaGreatChecked
import GoSem.Claim
import GoSem.ClaimJoined
import GoSem.ClaimMapViews
import Derived.JoinedTies
import Derived.KernelRfl
namespace Go.Proofs.YtelibndkkokadaaGreat
/- THE CELL 'sum', in the pinned program and in every row, IS THE sha256 OF THE DUMP (.gsa) THAT YtelibndkkokadaaGreatProg.lean LOADS. Nothing in Lean hashes anything: it is a label: what it is worth is what the hold of that sum in a sandbox is worth. -/
noncomputable def Tryz.pinned : Pinned := { name := "ytelibndkkokadaagreat", sum := "1f100e45553dec59cbacb892f75527dea12b4f9cecb9f28a2289f786cafc749c", checked := Tryz.checked }
namespace Rows
def none {H : Type} : Left H := { results := [], args := [] }

/-- 'chancellaw13.EvalIn': WHATEVER THE INPUT: true; the input reads as it did. -/
def evalInSpec : ChangeSpec := { name := "evalIn", fn := fun _ => fun
  | [d1, d2, d3] => { results := [.lit (.bool true)], args := [d1, d2, d3] }
  | _ => none }
def evalInRow : OpenClaim := { program := "ytelibndkkokadaagreat", sum := "1f100e45553dec59cbacb892f75527dea12b4f9cecb9f28a2289f786cafc749c", func := "chancel/chancellaw13.EvalIn", spec := "evalIn", inPlace := ["slices.overlaps[chancel/api.Value]"], unfollowed := true, recurses := true, loops := true, plainKeys := false, apart := false }
def EvalInSaid : Prop := evalInRow.holds Tryz.pinned (OpenSpec.ofChange evalInSpec)

/-- ITS FALSE NEIGHBOUR: 'it returns false'. Refute it at one input. -/
def evalInWrong : ChangeSpec := { name := "evalIn", fn := fun _ => fun
  | [d1, d2, d3] => { results := [.lit (.bool false)], args := [d1, d2, d3] }
  | _ => none }
def EvalInWrongFalsely : Prop := evalInRow.holds Tryz.pinned (OpenSpec.ofChange evalInWrong)

/-- 'chancellaw14.DecideScopes': WHATEVER THE INPUT: true; the input reads as it did. -/
def decideScopesSpec : ChangeSpec := { name := "decideScopes", fn := fun _ => fun
  | [d1, d2, d3, d4, d5] => { results := [.lit (.bool true)], args := [d1, d2, d3, d4, d5] }
  | _ => none }
def decideScopesRow : OpenClaim := { program := "ytelibndkkokadaagreat", sum := "1f100e45553dec59cbacb892f75527dea12b4f9cecb9f28a2289f786cafc749c", func := "chancel/chancellaw14.DecideScopes", spec := "decideScopes", inPlace := ["slices.overlaps[chancel/api.Value]"], unfollowed := true, recurses := true, loops := true, plainKeys := false, apart := false }
def DecideScopesSaid : Prop := decideScopesRow.holds Tryz.pinned (OpenSpec.ofChange decideScopesSpec)

/-- ITS FALSE NEIGHBOUR: 'it returns false'. Refute it at one input. -/
def decideScopesWrong : ChangeSpec := { name := "decideScopes", fn := fun _ => fun
  | [d1, d2, d3, d4, d5] => { results := [.lit (.bool false)], args := [d1, d2, d3, d4, d5] }
  | _ => none }
def DecideScopesWrongFalsely : Prop := decideScopesRow.holds Tryz.pinned (OpenSpec.ofChange decideScopesWrong)

/- THE SECOND FORM. 'bulk': how many values and letters a reading holds, each counted each time it is reached (what is shared counts as often as it is met; a slice's spare places count too). A statement '..UptoSaid' is the law's where the arguments, and the package variables that the reading takes, are together of bulk at most 1048576: NARROWER than '..Said'. Prove '..Said' where nothing that the law and all that it calls make is longer than what came in: it says more and counts as full. Else prove '..UptoSaid'. A law counts once. -/
mutual
def uptoBulk {H : Type} : DataW H → Nat
  | .lit (.string bytes) => bytes.length + 1
  | .lit _ => 1
  | .nil => 1
  | .ptr d => uptoBulk d + 1
  | .slice elems spare => uptoBulkAll elems + uptoBulkAll spare + 1
  | .agg parts => uptoBulkAll parts + 1
  | .iface _ d => uptoBulk d + 1
  | .map entries => uptoBulkEntries entries + 1
  | .held _ => 1
def uptoBulkAll {H : Type} : List (DataW H) → Nat
  | [] => 0
  | d :: r => uptoBulk d + uptoBulkAll r
def uptoBulkEntries {H : Type} : List (Lit × DataW H) → Nat
  | [] => 0
  | x :: r => uptoBulkEntry x + uptoBulkEntries r
def uptoBulkEntry {H : Type} : Lit × DataW H → Nat
  | (.string bytes, d) => bytes.length + uptoBulk d + 1
  | (_, d) => uptoBulk d + 1
 end
def uptoSmall : (H : Type) → List (DataW H) → Bool := fun _ ds => decide (uptoBulkAll ds ≤ 1048576)
def OpenSpec.upto (s : _root_.Go.ChangeSpec) : _root_.Go.OpenSpec := { _root_.Go.OpenSpec.ofChange s with cond := some uptoSmall }

/-- 'chancellaw13.EvalIn', WHERE WHAT IT READS IS OF BULK AT MOST 1048576: true; the input reads as it did. -/
def evalInUptoRow : OpenClaim := { program := "ytelibndkkokadaagreat", sum := "1f100e45553dec59cbacb892f75527dea12b4f9cecb9f28a2289f786cafc749c", func := "chancel/chancellaw13.EvalIn", spec := "evalIn", inPlace := ["slices.overlaps[chancel/api.Value]"], unfollowed := true, recurses := true, loops := true, plainKeys := false, apart := false, narrowed := true }
def EvalInUptoSaid : Prop := evalInUptoRow.holds Tryz.pinned (OpenSpec.upto evalInSpec)

/-- 'chancellaw14.DecideScopes', WHERE WHAT IT READS IS OF BULK AT MOST 1048576: true; the input reads as it did. -/
def decideScopesUptoRow : OpenClaim := { program := "ytelibndkkokadaagreat", sum := "1f100e45553dec59cbacb892f75527dea12b4f9cecb9f28a2289f786cafc749c", func := "chancel/chancellaw14.DecideScopes", spec := "decideScopes", inPlace := ["slices.overlaps[chancel/api.Value]"], unfollowed := true, recurses := true, loops := true, plainKeys := false, apart := false, narrowed := true }
def DecideScopesUptoSaid : Prop := decideScopesUptoRow.holds Tryz.pinned (OpenSpec.upto decideScopesSpec)

end Rows
end Go.Proofs.YtelibndkkokadaaGreat
