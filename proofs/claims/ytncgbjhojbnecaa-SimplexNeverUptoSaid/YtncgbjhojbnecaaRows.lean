/-
  No cell of these rows narrows 'for every input' (looked for: loops, veiled, ifaces, maps, wideKeys, modest, calm, conditions, laid).
  DERIVED. THE GIVEN ROWS OF THIS SEAT. 7 by the template 'for every input the law returns true; each argument reads behind the call as it read before'; 0 by the template 'total and deterministic' (their statements: YtncgbjhojbnecaaTotals.lean).
  GIVEN WITH THE SEED: the statements are not yours to turn. If you find one false, say at which input.
  Laid BY PROGRAM, IN A SANDBOX (cutbox-rows.mjs): the forced cells as the released guide's own fill.sh prints them over the translation ea53cc47e88c697f… (all of the seat's roots in one cut). By AI agents, Wed Nov 11 2026. No macro, syntax, notation, axiom, sorry.
-/
import Derived.Test.YtncgbjhojbnecaaChecked
import GoSem.Claim
import GoSem.ClaimJoined
import GoSem.ClaimMapViews
import Derived.JoinedTies
import Derived.KernelRfl
namespace Go.Proofs.Ytncgbjhojbnecaa
/- THE CELL 'sum', in the pinned program and in every row, IS THE sha256 OF THE DUMP (.gsa) THAT YtncgbjhojbnecaaProg.lean LOADS. Nothing in Lean hashes anything: it is a label: what it is worth is what the hold of that sum in a sandbox is worth. -/
noncomputable def Try.pinned : Pinned := { name := "ytncgbjhojbnecaa", sum := "ea53cc47e88c697f8bab74c2e395e9246f972857daf46314571ab711ac0992bc", checked := Try.checked }
namespace Rows
def none {H : Type} : Left H := { results := [], args := [] }

/-- 'offcutlaw12.SimplexBudget': WHATEVER THE INPUT: true; the input reads as it did. -/
def simplexBudgetSpec : ChangeSpec := { name := "simplexBudget", fn := fun _ => fun
  | [d1, d2] => { results := [.lit (.bool true)], args := [d1, d2] }
  | _ => none }
def simplexBudgetRow : OpenClaim := { program := "ytncgbjhojbnecaa", sum := "ea53cc47e88c697f8bab74c2e395e9246f972857daf46314571ab711ac0992bc", func := "offcut/offcutlaw12.SimplexBudget", spec := "simplexBudget", unfollowed := true, recurses := true, apart := false }
def SimplexBudgetSaid : Prop := simplexBudgetRow.holds Try.pinned (OpenSpec.ofChange simplexBudgetSpec)

/-- ITS FALSE NEIGHBOUR: 'it returns false'. Refute it at one input. -/
def simplexBudgetWrong : ChangeSpec := { name := "simplexBudget", fn := fun _ => fun
  | [d1, d2] => { results := [.lit (.bool false)], args := [d1, d2] }
  | _ => none }
def SimplexBudgetWrongFalsely : Prop := simplexBudgetRow.holds Try.pinned (OpenSpec.ofChange simplexBudgetWrong)

/-- 'offcutlaw12.SimplexScales': WHATEVER THE INPUT: true; the input reads as it did. -/
def simplexScalesSpec : ChangeSpec := { name := "simplexScales", fn := fun _ => fun
  | [d] => { results := [.lit (.bool true)], args := [d] }
  | _ => none }
def simplexScalesRow : OpenClaim := { program := "ytncgbjhojbnecaa", sum := "ea53cc47e88c697f8bab74c2e395e9246f972857daf46314571ab711ac0992bc", func := "offcut/offcutlaw12.SimplexScales", spec := "simplexScales", unfollowed := true, recurses := true, apart := false }
def SimplexScalesSaid : Prop := simplexScalesRow.holds Try.pinned (OpenSpec.ofChange simplexScalesSpec)

/-- ITS FALSE NEIGHBOUR: 'it returns false'. Refute it at one input. -/
def simplexScalesWrong : ChangeSpec := { name := "simplexScales", fn := fun _ => fun
  | [d] => { results := [.lit (.bool false)], args := [d] }
  | _ => none }
def SimplexScalesWrongFalsely : Prop := simplexScalesRow.holds Try.pinned (OpenSpec.ofChange simplexScalesWrong)

/-- 'offcutlaw12.SimplexLeast': WHATEVER THE INPUT: true; the input reads as it did. -/
def simplexLeastSpec : ChangeSpec := { name := "simplexLeast", fn := fun _ => fun
  | [d1, d2, d3] => { results := [.lit (.bool true)], args := [d1, d2, d3] }
  | _ => none }
def simplexLeastRow : OpenClaim := { program := "ytncgbjhojbnecaa", sum := "ea53cc47e88c697f8bab74c2e395e9246f972857daf46314571ab711ac0992bc", func := "offcut/offcutlaw12.SimplexLeast", spec := "simplexLeast", unfollowed := true, recurses := true, apart := false }
def SimplexLeastSaid : Prop := simplexLeastRow.holds Try.pinned (OpenSpec.ofChange simplexLeastSpec)

/-- ITS FALSE NEIGHBOUR: 'it returns false'. Refute it at one input. -/
def simplexLeastWrong : ChangeSpec := { name := "simplexLeast", fn := fun _ => fun
  | [d1, d2, d3] => { results := [.lit (.bool false)], args := [d1, d2, d3] }
  | _ => none }
def SimplexLeastWrongFalsely : Prop := simplexLeastRow.holds Try.pinned (OpenSpec.ofChange simplexLeastWrong)

/-- 'offcutlaw12.SimplexMore': WHATEVER THE INPUT: true; the input reads as it did. -/
def simplexMoreSpec : ChangeSpec := { name := "simplexMore", fn := fun _ => fun
  | [d1, d2, d3] => { results := [.lit (.bool true)], args := [d1, d2, d3] }
  | _ => none }
def simplexMoreRow : OpenClaim := { program := "ytncgbjhojbnecaa", sum := "ea53cc47e88c697f8bab74c2e395e9246f972857daf46314571ab711ac0992bc", func := "offcut/offcutlaw12.SimplexMore", spec := "simplexMore", unfollowed := true, recurses := true, apart := false }
def SimplexMoreSaid : Prop := simplexMoreRow.holds Try.pinned (OpenSpec.ofChange simplexMoreSpec)

/-- ITS FALSE NEIGHBOUR: 'it returns false'. Refute it at one input. -/
def simplexMoreWrong : ChangeSpec := { name := "simplexMore", fn := fun _ => fun
  | [d1, d2, d3] => { results := [.lit (.bool false)], args := [d1, d2, d3] }
  | _ => none }
def SimplexMoreWrongFalsely : Prop := simplexMoreRow.holds Try.pinned (OpenSpec.ofChange simplexMoreWrong)

/-- 'offcutlaw12.SimplexNever': WHATEVER THE INPUT: true; the input reads as it did. -/
def simplexNeverSpec : ChangeSpec := { name := "simplexNever", fn := fun _ => fun
  | [d1, d2] => { results := [.lit (.bool true)], args := [d1, d2] }
  | _ => none }
def simplexNeverRow : OpenClaim := { program := "ytncgbjhojbnecaa", sum := "ea53cc47e88c697f8bab74c2e395e9246f972857daf46314571ab711ac0992bc", func := "offcut/offcutlaw12.SimplexNever", spec := "simplexNever", unfollowed := true, recurses := true, apart := false }
def SimplexNeverSaid : Prop := simplexNeverRow.holds Try.pinned (OpenSpec.ofChange simplexNeverSpec)

/-- ITS FALSE NEIGHBOUR: 'it returns false'. Refute it at one input. -/
def simplexNeverWrong : ChangeSpec := { name := "simplexNever", fn := fun _ => fun
  | [d1, d2] => { results := [.lit (.bool false)], args := [d1, d2] }
  | _ => none }
def SimplexNeverWrongFalsely : Prop := simplexNeverRow.holds Try.pinned (OpenSpec.ofChange simplexNeverWrong)

/-- 'offcutlaw12.SimplexCorner': WHATEVER THE INPUT: true; the input reads as it did. -/
def simplexCornerSpec : ChangeSpec := { name := "simplexCorner", fn := fun _ => fun
  | [d1, d2] => { results := [.lit (.bool true)], args := [d1, d2] }
  | _ => none }
def simplexCornerRow : OpenClaim := { program := "ytncgbjhojbnecaa", sum := "ea53cc47e88c697f8bab74c2e395e9246f972857daf46314571ab711ac0992bc", func := "offcut/offcutlaw12.SimplexCorner", spec := "simplexCorner", unfollowed := true, recurses := true, apart := false }
def SimplexCornerSaid : Prop := simplexCornerRow.holds Try.pinned (OpenSpec.ofChange simplexCornerSpec)

/-- ITS FALSE NEIGHBOUR: 'it returns false'. Refute it at one input. -/
def simplexCornerWrong : ChangeSpec := { name := "simplexCorner", fn := fun _ => fun
  | [d1, d2] => { results := [.lit (.bool false)], args := [d1, d2] }
  | _ => none }
def SimplexCornerWrongFalsely : Prop := simplexCornerRow.holds Try.pinned (OpenSpec.ofChange simplexCornerWrong)

/-- 'offcutlaw12.SimplexFrom': WHATEVER THE INPUT: true; the input reads as it did. -/
def simplexFromSpec : ChangeSpec := { name := "simplexFrom", fn := fun _ => fun
  | [d1, d2] => { results := [.lit (.bool true)], args := [d1, d2] }
  | _ => none }
def simplexFromRow : OpenClaim := { program := "ytncgbjhojbnecaa", sum := "ea53cc47e88c697f8bab74c2e395e9246f972857daf46314571ab711ac0992bc", func := "offcut/offcutlaw12.SimplexFrom", spec := "simplexFrom", unfollowed := true, recurses := true, apart := false }
def SimplexFromSaid : Prop := simplexFromRow.holds Try.pinned (OpenSpec.ofChange simplexFromSpec)

/-- ITS FALSE NEIGHBOUR: 'it returns false'. Refute it at one input. -/
def simplexFromWrong : ChangeSpec := { name := "simplexFrom", fn := fun _ => fun
  | [d1, d2] => { results := [.lit (.bool false)], args := [d1, d2] }
  | _ => none }
def SimplexFromWrongFalsely : Prop := simplexFromRow.holds Try.pinned (OpenSpec.ofChange simplexFromWrong)

/- THE SECOND FORM. 'bulk': how many values and letters a reading holds, each counted each time it is reached (what is shared counts as often as it is met; a slice's spare places count too). A statement '..UptoSaid' is the law's where the arguments, and the package variables that the reading takes, are together of bulk at most 1048576: NARROWER than '..Said'. Prove '..Said' where nothing that the law and all that it calls make is longer than what came in: it says more and counts as full. Else prove '..UptoSaid'. A law counts once. -/
mutual
def uptoBulk {H : Type} : DataW H → Nat
  | .lit (.string bytes) => bytes.length + 1
  | .lit _ => 1
  | .nil => 1
  | .ptr d => uptoBulk d + 1
  | .slice elems spare => uptoBulkAll elems + uptoBulkAll spare + 1
  | .agg parts => uptoBulkAll parts + 1
  | .iface _ d => uptoBulk d + 1
  | .map entries => uptoBulkEntries entries + 1
  | .held _ => 1
def uptoBulkAll {H : Type} : List (DataW H) → Nat
  | [] => 0
  | d :: r => uptoBulk d + uptoBulkAll r
def uptoBulkEntries {H : Type} : List (Lit × DataW H) → Nat
  | [] => 0
  | x :: r => uptoBulkEntry x + uptoBulkEntries r
def uptoBulkEntry {H : Type} : Lit × DataW H → Nat
  | (.string bytes, d) => bytes.length + uptoBulk d + 1
  | (_, d) => uptoBulk d + 1
 end
def uptoSmall : (H : Type) → List (DataW H) → Bool := fun _ ds => decide (uptoBulkAll ds ≤ 1048576)
def OpenSpec.upto (s : _root_.Go.ChangeSpec) : _root_.Go.OpenSpec := { _root_.Go.OpenSpec.ofChange s with cond := some uptoSmall }

/-- 'offcutlaw12.SimplexBudget', WHERE WHAT IT READS IS OF BULK AT MOST 1048576: true; the input reads as it did. -/
def simplexBudgetUptoRow : OpenClaim := { program := "ytncgbjhojbnecaa", sum := "ea53cc47e88c697f8bab74c2e395e9246f972857daf46314571ab711ac0992bc", func := "offcut/offcutlaw12.SimplexBudget", spec := "simplexBudget", unfollowed := true, recurses := true, apart := false, narrowed := true }
def SimplexBudgetUptoSaid : Prop := simplexBudgetUptoRow.holds Try.pinned (OpenSpec.upto simplexBudgetSpec)

/-- 'offcutlaw12.SimplexScales', WHERE WHAT IT READS IS OF BULK AT MOST 1048576: true; the input reads as it did. -/
def simplexScalesUptoRow : OpenClaim := { program := "ytncgbjhojbnecaa", sum := "ea53cc47e88c697f8bab74c2e395e9246f972857daf46314571ab711ac0992bc", func := "offcut/offcutlaw12.SimplexScales", spec := "simplexScales", unfollowed := true, recurses := true, apart := false, narrowed := true }
def SimplexScalesUptoSaid : Prop := simplexScalesUptoRow.holds Try.pinned (OpenSpec.upto simplexScalesSpec)

/-- 'offcutlaw12.SimplexLeast', WHERE WHAT IT READS IS OF BULK AT MOST 1048576: true; the input reads as it did. -/
def simplexLeastUptoRow : OpenClaim := { program := "ytncgbjhojbnecaa", sum := "ea53cc47e88c697f8bab74c2e395e9246f972857daf46314571ab711ac0992bc", func := "offcut/offcutlaw12.SimplexLeast", spec := "simplexLeast", unfollowed := true, recurses := true, apart := false, narrowed := true }
def SimplexLeastUptoSaid : Prop := simplexLeastUptoRow.holds Try.pinned (OpenSpec.upto simplexLeastSpec)

/-- 'offcutlaw12.SimplexMore', WHERE WHAT IT READS IS OF BULK AT MOST 1048576: true; the input reads as it did. -/
def simplexMoreUptoRow : OpenClaim := { program := "ytncgbjhojbnecaa", sum := "ea53cc47e88c697f8bab74c2e395e9246f972857daf46314571ab711ac0992bc", func := "offcut/offcutlaw12.SimplexMore", spec := "simplexMore", unfollowed := true, recurses := true, apart := false, narrowed := true }
def SimplexMoreUptoSaid : Prop := simplexMoreUptoRow.holds Try.pinned (OpenSpec.upto simplexMoreSpec)

/-- 'offcutlaw12.SimplexNever', WHERE WHAT IT READS IS OF BULK AT MOST 1048576: true; the input reads as it did. -/
def simplexNeverUptoRow : OpenClaim := { program := "ytncgbjhojbnecaa", sum := "ea53cc47e88c697f8bab74c2e395e9246f972857daf46314571ab711ac0992bc", func := "offcut/offcutlaw12.SimplexNever", spec := "simplexNever", unfollowed := true, recurses := true, apart := false, narrowed := true }
def SimplexNeverUptoSaid : Prop := simplexNeverUptoRow.holds Try.pinned (OpenSpec.upto simplexNeverSpec)

/-- 'offcutlaw12.SimplexCorner', WHERE WHAT IT READS IS OF BULK AT MOST 1048576: true; the input reads as it did. -/
def simplexCornerUptoRow : OpenClaim := { program := "ytncgbjhojbnecaa", sum := "ea53cc47e88c697f8bab74c2e395e9246f972857daf46314571ab711ac0992bc", func := "offcut/offcutlaw12.SimplexCorner", spec := "simplexCorner", unfollowed := true, recurses := true, apart := false, narrowed := true }
def SimplexCornerUptoSaid : Prop := simplexCornerUptoRow.holds Try.pinned (OpenSpec.upto simplexCornerSpec)

/-- 'offcutlaw12.SimplexFrom', WHERE WHAT IT READS IS OF BULK AT MOST 1048576: true; the input reads as it did. -/
def simplexFromUptoRow : OpenClaim := { program := "ytncgbjhojbnecaa", sum := "ea53cc47e88c697f8bab74c2e395e9246f972857daf46314571ab711ac0992bc", func := "offcut/offcutlaw12.SimplexFrom", spec := "simplexFrom", unfollowed := true, recurses := true, apart := false, narrowed := true }
def SimplexFromUptoSaid : Prop := simplexFromUptoRow.holds Try.pinned (OpenSpec.upto simplexFromSpec)

end Rows
end Go.Proofs.Ytncgbjhojbnecaa
