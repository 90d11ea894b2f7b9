/-
  No cell of these rows narrows 'for every input' (looked for: loops, veiled, ifaces, maps, wideKeys, modest, calm, conditions, laid).
  DERIVED. THE GIVEN ROWS OF THIS SEAT. 23 by the template 'for every input the law returns true; each argument reads behind the call as it read before'; 0 by the template 'total and deterministic' (their statements: YtdhkdnmefeeclaaTotals.lean).
  GIVEN WITH THE SEED: the statements are not yours to turn. If you find one false, say at which input.
  Laid BY PROGRAM, IN A SANDBOX (cutbox-rows.mjs): the forced cells as the released guide's own fill.sh prints them over the translation 2a4ecb068ed1d6e8… (all of the seat's roots in one cut). By AI agents, Wed Nov 11 2026. No macro, syntax, notation, axiom, sorry.
-/
import Derived.Test.YtdhkdnmefeeclaaChecked
import GoSem.Claim
import GoSem.ClaimJoined
import GoSem.ClaimMapViews
import Derived.JoinedTies
import Derived.KernelRfl
namespace Go.Proofs.Ytdhkdnmefeeclaa
/- THE CELL 'sum', in the pinned program and in every row, IS THE sha256 OF THE DUMP (.gsa) THAT YtdhkdnmefeeclaaProg.lean LOADS. Nothing in Lean hashes anything: it is a label: what it is worth is what the hold of that sum in a sandbox is worth. -/
noncomputable def Try.pinned : Pinned := { name := "ytdhkdnmefeeclaa", sum := "2a4ecb068ed1d6e81ae5f2d08871572ae88baf7e1cc6fd7501bed2e9e4c6e3c7", checked := Try.checked }
namespace Rows
def none {H : Type} : Left H := { results := [], args := [] }

/-- 'offcutlaw05.VecSparse': WHATEVER THE INPUT: true; the input reads as it did. -/
def vecSparseSpec : ChangeSpec := { name := "vecSparse", fn := fun _ => fun
  | [d1, d2] => { results := [.lit (.bool true)], args := [d1, d2] }
  | _ => none }
def vecSparseRow : OpenClaim := { program := "ytdhkdnmefeeclaa", sum := "2a4ecb068ed1d6e81ae5f2d08871572ae88baf7e1cc6fd7501bed2e9e4c6e3c7", func := "offcut/offcutlaw05.VecSparse", spec := "vecSparse", unfollowed := true, recurses := true, apart := false }
def VecSparseSaid : Prop := vecSparseRow.holds Try.pinned (OpenSpec.ofChange vecSparseSpec)

/-- ITS FALSE NEIGHBOUR: 'it returns false'. Refute it at one input. -/
def vecSparseWrong : ChangeSpec := { name := "vecSparse", fn := fun _ => fun
  | [d1, d2] => { results := [.lit (.bool false)], args := [d1, d2] }
  | _ => none }
def VecSparseWrongFalsely : Prop := vecSparseRow.holds Try.pinned (OpenSpec.ofChange vecSparseWrong)

/-- 'offcutlaw05.VecDense': WHATEVER THE INPUT: true; the input reads as it did. -/
def vecDenseSpec : ChangeSpec := { name := "vecDense", fn := fun _ => fun
  | [d1, d2] => { results := [.lit (.bool true)], args := [d1, d2] }
  | _ => none }
def vecDenseRow : OpenClaim := { program := "ytdhkdnmefeeclaa", sum := "2a4ecb068ed1d6e81ae5f2d08871572ae88baf7e1cc6fd7501bed2e9e4c6e3c7", func := "offcut/offcutlaw05.VecDense", spec := "vecDense", unfollowed := true, recurses := true, apart := false }
def VecDenseSaid : Prop := vecDenseRow.holds Try.pinned (OpenSpec.ofChange vecDenseSpec)

/-- ITS FALSE NEIGHBOUR: 'it returns false'. Refute it at one input. -/
def vecDenseWrong : ChangeSpec := { name := "vecDense", fn := fun _ => fun
  | [d1, d2] => { results := [.lit (.bool false)], args := [d1, d2] }
  | _ => none }
def VecDenseWrongFalsely : Prop := vecDenseRow.holds Try.pinned (OpenSpec.ofChange vecDenseWrong)

/-- 'offcutlaw05.VecSparseDot': WHATEVER THE INPUT: true; the input reads as it did. -/
def vecSparseDotSpec : ChangeSpec := { name := "vecSparseDot", fn := fun _ => fun
  | [d1, d2] => { results := [.lit (.bool true)], args := [d1, d2] }
  | _ => none }
def vecSparseDotRow : OpenClaim := { program := "ytdhkdnmefeeclaa", sum := "2a4ecb068ed1d6e81ae5f2d08871572ae88baf7e1cc6fd7501bed2e9e4c6e3c7", func := "offcut/offcutlaw05.VecSparseDot", spec := "vecSparseDot", unfollowed := true, recurses := true, apart := false }
def VecSparseDotSaid : Prop := vecSparseDotRow.holds Try.pinned (OpenSpec.ofChange vecSparseDotSpec)

/-- ITS FALSE NEIGHBOUR: 'it returns false'. Refute it at one input. -/
def vecSparseDotWrong : ChangeSpec := { name := "vecSparseDot", fn := fun _ => fun
  | [d1, d2] => { results := [.lit (.bool false)], args := [d1, d2] }
  | _ => none }
def VecSparseDotWrongFalsely : Prop := vecSparseDotRow.holds Try.pinned (OpenSpec.ofChange vecSparseDotWrong)

/-- 'offcutlaw05.VecSums': WHATEVER THE INPUT: true; the input reads as it did. -/
def vecSumsSpec : ChangeSpec := { name := "vecSums", fn := fun _ => fun
  | [d1, d2, d3] => { results := [.lit (.bool true)], args := [d1, d2, d3] }
  | _ => none }
def vecSumsRow : OpenClaim := { program := "ytdhkdnmefeeclaa", sum := "2a4ecb068ed1d6e81ae5f2d08871572ae88baf7e1cc6fd7501bed2e9e4c6e3c7", func := "offcut/offcutlaw05.VecSums", spec := "vecSums", unfollowed := true, recurses := true, apart := false }
def VecSumsSaid : Prop := vecSumsRow.holds Try.pinned (OpenSpec.ofChange vecSumsSpec)

/-- ITS FALSE NEIGHBOUR: 'it returns false'. Refute it at one input. -/
def vecSumsWrong : ChangeSpec := { name := "vecSums", fn := fun _ => fun
  | [d1, d2, d3] => { results := [.lit (.bool false)], args := [d1, d2, d3] }
  | _ => none }
def VecSumsWrongFalsely : Prop := vecSumsRow.holds Try.pinned (OpenSpec.ofChange vecSumsWrong)

/-- 'offcutlaw05.VecRules': WHATEVER THE INPUT: true; the input reads as it did. -/
def vecRulesSpec : ChangeSpec := { name := "vecRules", fn := fun _ => fun
  | [d1, d2, d3, d4] => { results := [.lit (.bool true)], args := [d1, d2, d3, d4] }
  | _ => none }
def vecRulesRow : OpenClaim := { program := "ytdhkdnmefeeclaa", sum := "2a4ecb068ed1d6e81ae5f2d08871572ae88baf7e1cc6fd7501bed2e9e4c6e3c7", func := "offcut/offcutlaw05.VecRules", spec := "vecRules", unfollowed := true, recurses := true, apart := false }
def VecRulesSaid : Prop := vecRulesRow.holds Try.pinned (OpenSpec.ofChange vecRulesSpec)

/-- ITS FALSE NEIGHBOUR: 'it returns false'. Refute it at one input. -/
def vecRulesWrong : ChangeSpec := { name := "vecRules", fn := fun _ => fun
  | [d1, d2, d3, d4] => { results := [.lit (.bool false)], args := [d1, d2, d3, d4] }
  | _ => none }
def VecRulesWrongFalsely : Prop := vecRulesRow.holds Try.pinned (OpenSpec.ofChange vecRulesWrong)

/-- 'offcutlaw05.VecTells': WHATEVER THE INPUT: true; the input reads as it did. -/
def vecTellsSpec : ChangeSpec := { name := "vecTells", fn := fun _ => fun
  | [d1, d2] => { results := [.lit (.bool true)], args := [d1, d2] }
  | _ => none }
def vecTellsRow : OpenClaim := { program := "ytdhkdnmefeeclaa", sum := "2a4ecb068ed1d6e81ae5f2d08871572ae88baf7e1cc6fd7501bed2e9e4c6e3c7", func := "offcut/offcutlaw05.VecTells", spec := "vecTells", unfollowed := true, recurses := true, apart := false }
def VecTellsSaid : Prop := vecTellsRow.holds Try.pinned (OpenSpec.ofChange vecTellsSpec)

/-- ITS FALSE NEIGHBOUR: 'it returns false'. Refute it at one input. -/
def vecTellsWrong : ChangeSpec := { name := "vecTells", fn := fun _ => fun
  | [d1, d2] => { results := [.lit (.bool false)], args := [d1, d2] }
  | _ => none }
def VecTellsWrongFalsely : Prop := vecTellsRow.holds Try.pinned (OpenSpec.ofChange vecTellsWrong)

/-- 'offcutlaw06.LinSpans': WHATEVER THE INPUT: true; the input reads as it did. -/
def linSpansSpec : ChangeSpec := { name := "linSpans", fn := fun _ => fun
  | [d] => { results := [.lit (.bool true)], args := [d] }
  | _ => none }
def linSpansRow : OpenClaim := { program := "ytdhkdnmefeeclaa", sum := "2a4ecb068ed1d6e81ae5f2d08871572ae88baf7e1cc6fd7501bed2e9e4c6e3c7", func := "offcut/offcutlaw06.LinSpans", spec := "linSpans", unfollowed := true, recurses := true, apart := false }
def LinSpansSaid : Prop := linSpansRow.holds Try.pinned (OpenSpec.ofChange linSpansSpec)

/-- ITS FALSE NEIGHBOUR: 'it returns false'. Refute it at one input. -/
def linSpansWrong : ChangeSpec := { name := "linSpans", fn := fun _ => fun
  | [d] => { results := [.lit (.bool false)], args := [d] }
  | _ => none }
def LinSpansWrongFalsely : Prop := linSpansRow.holds Try.pinned (OpenSpec.ofChange linSpansWrong)

/-- 'offcutlaw06.LinReduces': WHATEVER THE INPUT: true; the input reads as it did. -/
def linReducesSpec : ChangeSpec := { name := "linReduces", fn := fun _ => fun
  | [d] => { results := [.lit (.bool true)], args := [d] }
  | _ => none }
def linReducesRow : OpenClaim := { program := "ytdhkdnmefeeclaa", sum := "2a4ecb068ed1d6e81ae5f2d08871572ae88baf7e1cc6fd7501bed2e9e4c6e3c7", func := "offcut/offcutlaw06.LinReduces", spec := "linReduces", unfollowed := true, recurses := true, apart := false }
def LinReducesSaid : Prop := linReducesRow.holds Try.pinned (OpenSpec.ofChange linReducesSpec)

/-- ITS FALSE NEIGHBOUR: 'it returns false'. Refute it at one input. -/
def linReducesWrong : ChangeSpec := { name := "linReduces", fn := fun _ => fun
  | [d] => { results := [.lit (.bool false)], args := [d] }
  | _ => none }
def LinReducesWrongFalsely : Prop := linReducesRow.holds Try.pinned (OpenSpec.ofChange linReducesWrong)

/-- 'offcutlaw06.LinRank': WHATEVER THE INPUT: true; the input reads as it did. -/
def linRankSpec : ChangeSpec := { name := "linRank", fn := fun _ => fun
  | [d] => { results := [.lit (.bool true)], args := [d] }
  | _ => none }
def linRankRow : OpenClaim := { program := "ytdhkdnmefeeclaa", sum := "2a4ecb068ed1d6e81ae5f2d08871572ae88baf7e1cc6fd7501bed2e9e4c6e3c7", func := "offcut/offcutlaw06.LinRank", spec := "linRank", unfollowed := true, recurses := true, apart := false }
def LinRankSaid : Prop := linRankRow.holds Try.pinned (OpenSpec.ofChange linRankSpec)

/-- ITS FALSE NEIGHBOUR: 'it returns false'. Refute it at one input. -/
def linRankWrong : ChangeSpec := { name := "linRank", fn := fun _ => fun
  | [d] => { results := [.lit (.bool false)], args := [d] }
  | _ => none }
def LinRankWrongFalsely : Prop := linRankRow.holds Try.pinned (OpenSpec.ofChange linRankWrong)

/-- 'offcutlaw06.LinSolves': WHATEVER THE INPUT: true; the input reads as it did. -/
def linSolvesSpec : ChangeSpec := { name := "linSolves", fn := fun _ => fun
  | [d1, d2] => { results := [.lit (.bool true)], args := [d1, d2] }
  | _ => none }
def linSolvesRow : OpenClaim := { program := "ytdhkdnmefeeclaa", sum := "2a4ecb068ed1d6e81ae5f2d08871572ae88baf7e1cc6fd7501bed2e9e4c6e3c7", func := "offcut/offcutlaw06.LinSolves", spec := "linSolves", unfollowed := true, recurses := true, apart := false }
def LinSolvesSaid : Prop := linSolvesRow.holds Try.pinned (OpenSpec.ofChange linSolvesSpec)

/-- ITS FALSE NEIGHBOUR: 'it returns false'. Refute it at one input. -/
def linSolvesWrong : ChangeSpec := { name := "linSolves", fn := fun _ => fun
  | [d1, d2] => { results := [.lit (.bool false)], args := [d1, d2] }
  | _ => none }
def LinSolvesWrongFalsely : Prop := linSolvesRow.holds Try.pinned (OpenSpec.ofChange linSolvesWrong)

/-- 'offcutlaw06.LinTurns': WHATEVER THE INPUT: true; the input reads as it did. -/
def linTurnsSpec : ChangeSpec := { name := "linTurns", fn := fun _ => fun
  | [d1, d2, d3] => { results := [.lit (.bool true)], args := [d1, d2, d3] }
  | _ => none }
def linTurnsRow : OpenClaim := { program := "ytdhkdnmefeeclaa", sum := "2a4ecb068ed1d6e81ae5f2d08871572ae88baf7e1cc6fd7501bed2e9e4c6e3c7", func := "offcut/offcutlaw06.LinTurns", spec := "linTurns", unfollowed := true, recurses := true, apart := false }
def LinTurnsSaid : Prop := linTurnsRow.holds Try.pinned (OpenSpec.ofChange linTurnsSpec)

/-- ITS FALSE NEIGHBOUR: 'it returns false'. Refute it at one input. -/
def linTurnsWrong : ChangeSpec := { name := "linTurns", fn := fun _ => fun
  | [d1, d2, d3] => { results := [.lit (.bool false)], args := [d1, d2, d3] }
  | _ => none }
def LinTurnsWrongFalsely : Prop := linTurnsRow.holds Try.pinned (OpenSpec.ofChange linTurnsWrong)

/-- 'offcutlaw11.ShapeFits': WHATEVER THE INPUT: true; the input reads as it did. -/
def shapeFitsSpec : ChangeSpec := { name := "shapeFits", fn := fun _ => fun
  | [d1, d2] => { results := [.lit (.bool true)], args := [d1, d2] }
  | _ => none }
def shapeFitsRow : OpenClaim := { program := "ytdhkdnmefeeclaa", sum := "2a4ecb068ed1d6e81ae5f2d08871572ae88baf7e1cc6fd7501bed2e9e4c6e3c7", func := "offcut/offcutlaw11.ShapeFits", spec := "shapeFits", unfollowed := true, recurses := true, apart := false }
def ShapeFitsSaid : Prop := shapeFitsRow.holds Try.pinned (OpenSpec.ofChange shapeFitsSpec)

/-- ITS FALSE NEIGHBOUR: 'it returns false'. Refute it at one input. -/
def shapeFitsWrong : ChangeSpec := { name := "shapeFits", fn := fun _ => fun
  | [d1, d2] => { results := [.lit (.bool false)], args := [d1, d2] }
  | _ => none }
def ShapeFitsWrongFalsely : Prop := shapeFitsRow.holds Try.pinned (OpenSpec.ofChange shapeFitsWrong)

/-- 'offcutlaw11.ShapeOf': WHATEVER THE INPUT: true; the input reads as it did. -/
def shapeOfSpec : ChangeSpec := { name := "shapeOf", fn := fun _ => fun
  | [d] => { results := [.lit (.bool true)], args := [d] }
  | _ => none }
def shapeOfRow : OpenClaim := { program := "ytdhkdnmefeeclaa", sum := "2a4ecb068ed1d6e81ae5f2d08871572ae88baf7e1cc6fd7501bed2e9e4c6e3c7", func := "offcut/offcutlaw11.ShapeOf", spec := "shapeOf", unfollowed := true, recurses := true, apart := false }
def ShapeOfSaid : Prop := shapeOfRow.holds Try.pinned (OpenSpec.ofChange shapeOfSpec)

/-- ITS FALSE NEIGHBOUR: 'it returns false'. Refute it at one input. -/
def shapeOfWrong : ChangeSpec := { name := "shapeOf", fn := fun _ => fun
  | [d] => { results := [.lit (.bool false)], args := [d] }
  | _ => none }
def ShapeOfWrongFalsely : Prop := shapeOfRow.holds Try.pinned (OpenSpec.ofChange shapeOfWrong)

/-- 'offcutlaw11.ShapeDoes': WHATEVER THE INPUT: true; the input reads as it did. -/
def shapeDoesSpec : ChangeSpec := { name := "shapeDoes", fn := fun _ => fun
  | [d1, d2] => { results := [.lit (.bool true)], args := [d1, d2] }
  | _ => none }
def shapeDoesRow : OpenClaim := { program := "ytdhkdnmefeeclaa", sum := "2a4ecb068ed1d6e81ae5f2d08871572ae88baf7e1cc6fd7501bed2e9e4c6e3c7", func := "offcut/offcutlaw11.ShapeDoes", spec := "shapeDoes", unfollowed := true, recurses := true, apart := false }
def ShapeDoesSaid : Prop := shapeDoesRow.holds Try.pinned (OpenSpec.ofChange shapeDoesSpec)

/-- ITS FALSE NEIGHBOUR: 'it returns false'. Refute it at one input. -/
def shapeDoesWrong : ChangeSpec := { name := "shapeDoes", fn := fun _ => fun
  | [d1, d2] => { results := [.lit (.bool false)], args := [d1, d2] }
  | _ => none }
def ShapeDoesWrongFalsely : Prop := shapeDoesRow.holds Try.pinned (OpenSpec.ofChange shapeDoesWrong)

/-- 'offcutlaw11.ShapeWith': WHATEVER THE INPUT: true; the input reads as it did. -/
def shapeWithSpec : ChangeSpec := { name := "shapeWith", fn := fun _ => fun
  | [d1, d2, d3, d4] => { results := [.lit (.bool true)], args := [d1, d2, d3, d4] }
  | _ => none }
def shapeWithRow : OpenClaim := { program := "ytdhkdnmefeeclaa", sum := "2a4ecb068ed1d6e81ae5f2d08871572ae88baf7e1cc6fd7501bed2e9e4c6e3c7", func := "offcut/offcutlaw11.ShapeWith", spec := "shapeWith", unfollowed := true, recurses := true, apart := false }
def ShapeWithSaid : Prop := shapeWithRow.holds Try.pinned (OpenSpec.ofChange shapeWithSpec)

/-- ITS FALSE NEIGHBOUR: 'it returns false'. Refute it at one input. -/
def shapeWithWrong : ChangeSpec := { name := "shapeWith", fn := fun _ => fun
  | [d1, d2, d3, d4] => { results := [.lit (.bool false)], args := [d1, d2, d3, d4] }
  | _ => none }
def ShapeWithWrongFalsely : Prop := shapeWithRow.holds Try.pinned (OpenSpec.ofChange shapeWithWrong)

/-- 'offcutlaw11.ShapeMix': WHATEVER THE INPUT: true; the input reads as it did. -/
def shapeMixSpec : ChangeSpec := { name := "shapeMix", fn := fun _ => fun
  | [d1, d2, d3] => { results := [.lit (.bool true)], args := [d1, d2, d3] }
  | _ => none }
def shapeMixRow : OpenClaim := { program := "ytdhkdnmefeeclaa", sum := "2a4ecb068ed1d6e81ae5f2d08871572ae88baf7e1cc6fd7501bed2e9e4c6e3c7", func := "offcut/offcutlaw11.ShapeMix", spec := "shapeMix", unfollowed := true, recurses := true, apart := false }
def ShapeMixSaid : Prop := shapeMixRow.holds Try.pinned (OpenSpec.ofChange shapeMixSpec)

/-- ITS FALSE NEIGHBOUR: 'it returns false'. Refute it at one input. -/
def shapeMixWrong : ChangeSpec := { name := "shapeMix", fn := fun _ => fun
  | [d1, d2, d3] => { results := [.lit (.bool false)], args := [d1, d2, d3] }
  | _ => none }
def ShapeMixWrongFalsely : Prop := shapeMixRow.holds Try.pinned (OpenSpec.ofChange shapeMixWrong)

/-- 'offcutlaw11.ShapeBack': WHATEVER THE INPUT: true; the input reads as it did. -/
def shapeBackSpec : ChangeSpec := { name := "shapeBack", fn := fun _ => fun
  | [d1, d2] => { results := [.lit (.bool true)], args := [d1, d2] }
  | _ => none }
def shapeBackRow : OpenClaim := { program := "ytdhkdnmefeeclaa", sum := "2a4ecb068ed1d6e81ae5f2d08871572ae88baf7e1cc6fd7501bed2e9e4c6e3c7", func := "offcut/offcutlaw11.ShapeBack", spec := "shapeBack", unfollowed := true, recurses := true, apart := false }
def ShapeBackSaid : Prop := shapeBackRow.holds Try.pinned (OpenSpec.ofChange shapeBackSpec)

/-- ITS FALSE NEIGHBOUR: 'it returns false'. Refute it at one input. -/
def shapeBackWrong : ChangeSpec := { name := "shapeBack", fn := fun _ => fun
  | [d1, d2] => { results := [.lit (.bool false)], args := [d1, d2] }
  | _ => none }
def ShapeBackWrongFalsely : Prop := shapeBackRow.holds Try.pinned (OpenSpec.ofChange shapeBackWrong)

/-- 'offcutlaw16.KnapWider': WHATEVER THE INPUT: true; the input reads as it did. -/
def knapWiderSpec : ChangeSpec := { name := "knapWider", fn := fun _ => fun
  | [d1, d2, d3, d4] => { results := [.lit (.bool true)], args := [d1, d2, d3, d4] }
  | _ => none }
def knapWiderRow : OpenClaim := { program := "ytdhkdnmefeeclaa", sum := "2a4ecb068ed1d6e81ae5f2d08871572ae88baf7e1cc6fd7501bed2e9e4c6e3c7", func := "offcut/offcutlaw16.KnapWider", spec := "knapWider", unfollowed := true, recurses := true, apart := false }
def KnapWiderSaid : Prop := knapWiderRow.holds Try.pinned (OpenSpec.ofChange knapWiderSpec)

/-- ITS FALSE NEIGHBOUR: 'it returns false'. Refute it at one input. -/
def knapWiderWrong : ChangeSpec := { name := "knapWider", fn := fun _ => fun
  | [d1, d2, d3, d4] => { results := [.lit (.bool false)], args := [d1, d2, d3, d4] }
  | _ => none }
def KnapWiderWrongFalsely : Prop := knapWiderRow.holds Try.pinned (OpenSpec.ofChange knapWiderWrong)

/-- 'offcutlaw16.KnapMany': WHATEVER THE INPUT: true; the input reads as it did. -/
def knapManySpec : ChangeSpec := { name := "knapMany", fn := fun _ => fun
  | [d1, d2] => { results := [.lit (.bool true)], args := [d1, d2] }
  | _ => none }
def knapManyRow : OpenClaim := { program := "ytdhkdnmefeeclaa", sum := "2a4ecb068ed1d6e81ae5f2d08871572ae88baf7e1cc6fd7501bed2e9e4c6e3c7", func := "offcut/offcutlaw16.KnapMany", spec := "knapMany", unfollowed := true, recurses := true, apart := false }
def KnapManySaid : Prop := knapManyRow.holds Try.pinned (OpenSpec.ofChange knapManySpec)

/-- ITS FALSE NEIGHBOUR: 'it returns false'. Refute it at one input. -/
def knapManyWrong : ChangeSpec := { name := "knapMany", fn := fun _ => fun
  | [d1, d2] => { results := [.lit (.bool false)], args := [d1, d2] }
  | _ => none }
def KnapManyWrongFalsely : Prop := knapManyRow.holds Try.pinned (OpenSpec.ofChange knapManyWrong)

/-- 'offcutlaw16.KnapNone': WHATEVER THE INPUT: true; the input reads as it did. -/
def knapNoneSpec : ChangeSpec := { name := "knapNone", fn := fun _ => fun
  | [d1, d2, d3] => { results := [.lit (.bool true)], args := [d1, d2, d3] }
  | _ => none }
def knapNoneRow : OpenClaim := { program := "ytdhkdnmefeeclaa", sum := "2a4ecb068ed1d6e81ae5f2d08871572ae88baf7e1cc6fd7501bed2e9e4c6e3c7", func := "offcut/offcutlaw16.KnapNone", spec := "knapNone", unfollowed := true, recurses := true, apart := false }
def KnapNoneSaid : Prop := knapNoneRow.holds Try.pinned (OpenSpec.ofChange knapNoneSpec)

/-- ITS FALSE NEIGHBOUR: 'it returns false'. Refute it at one input. -/
def knapNoneWrong : ChangeSpec := { name := "knapNone", fn := fun _ => fun
  | [d1, d2, d3] => { results := [.lit (.bool false)], args := [d1, d2, d3] }
  | _ => none }
def KnapNoneWrongFalsely : Prop := knapNoneRow.holds Try.pinned (OpenSpec.ofChange knapNoneWrong)

/-- 'offcutlaw16.KnapTurned': WHATEVER THE INPUT: true; the input reads as it did. -/
def knapTurnedSpec : ChangeSpec := { name := "knapTurned", fn := fun _ => fun
  | [d1, d2, d3] => { results := [.lit (.bool true)], args := [d1, d2, d3] }
  | _ => none }
def knapTurnedRow : OpenClaim := { program := "ytdhkdnmefeeclaa", sum := "2a4ecb068ed1d6e81ae5f2d08871572ae88baf7e1cc6fd7501bed2e9e4c6e3c7", func := "offcut/offcutlaw16.KnapTurned", spec := "knapTurned", unfollowed := true, recurses := true, apart := false }
def KnapTurnedSaid : Prop := knapTurnedRow.holds Try.pinned (OpenSpec.ofChange knapTurnedSpec)

/-- ITS FALSE NEIGHBOUR: 'it returns false'. Refute it at one input. -/
def knapTurnedWrong : ChangeSpec := { name := "knapTurned", fn := fun _ => fun
  | [d1, d2, d3] => { results := [.lit (.bool false)], args := [d1, d2, d3] }
  | _ => none }
def KnapTurnedWrongFalsely : Prop := knapTurnedRow.holds Try.pinned (OpenSpec.ofChange knapTurnedWrong)

/-- 'offcutlaw16.KnapBest': WHATEVER THE INPUT: true; the input reads as it did. -/
def knapBestSpec : ChangeSpec := { name := "knapBest", fn := fun _ => fun
  | [d1, d2] => { results := [.lit (.bool true)], args := [d1, d2] }
  | _ => none }
def knapBestRow : OpenClaim := { program := "ytdhkdnmefeeclaa", sum := "2a4ecb068ed1d6e81ae5f2d08871572ae88baf7e1cc6fd7501bed2e9e4c6e3c7", func := "offcut/offcutlaw16.KnapBest", spec := "knapBest", unfollowed := true, recurses := true, apart := false }
def KnapBestSaid : Prop := knapBestRow.holds Try.pinned (OpenSpec.ofChange knapBestSpec)

/-- ITS FALSE NEIGHBOUR: 'it returns false'. Refute it at one input. -/
def knapBestWrong : ChangeSpec := { name := "knapBest", fn := fun _ => fun
  | [d1, d2] => { results := [.lit (.bool false)], args := [d1, d2] }
  | _ => none }
def KnapBestWrongFalsely : Prop := knapBestRow.holds Try.pinned (OpenSpec.ofChange knapBestWrong)

/-- 'offcutlaw16.KnapFits': WHATEVER THE INPUT: true; the input reads as it did. -/
def knapFitsSpec : ChangeSpec := { name := "knapFits", fn := fun _ => fun
  | [d1, d2, d3] => { results := [.lit (.bool true)], args := [d1, d2, d3] }
  | _ => none }
def knapFitsRow : OpenClaim := { program := "ytdhkdnmefeeclaa", sum := "2a4ecb068ed1d6e81ae5f2d08871572ae88baf7e1cc6fd7501bed2e9e4c6e3c7", func := "offcut/offcutlaw16.KnapFits", spec := "knapFits", unfollowed := true, recurses := true, apart := false }
def KnapFitsSaid : Prop := knapFitsRow.holds Try.pinned (OpenSpec.ofChange knapFitsSpec)

/-- ITS FALSE NEIGHBOUR: 'it returns false'. Refute it at one input. -/
def knapFitsWrong : ChangeSpec := { name := "knapFits", fn := fun _ => fun
  | [d1, d2, d3] => { results := [.lit (.bool false)], args := [d1, d2, d3] }
  | _ => none }
def KnapFitsWrongFalsely : Prop := knapFitsRow.holds Try.pinned (OpenSpec.ofChange knapFitsWrong)

/- THE SECOND FORM. 'bulk': how many values and letters a reading holds, each counted each time it is reached (what is shared counts as often as it is met; a slice's spare places count too). A statement '..UptoSaid' is the law's where the arguments, and the package variables that the reading takes, are together of bulk at most 1048576: NARROWER than '..Said'. Prove '..Said' where nothing that the law and all that it calls make is longer than what came in: it says more and counts as full. Else prove '..UptoSaid'. A law counts once. -/
mutual
def uptoBulk {H : Type} : DataW H → Nat
  | .lit (.string bytes) => bytes.length + 1
  | .lit _ => 1
  | .nil => 1
  | .ptr d => uptoBulk d + 1
  | .slice elems spare => uptoBulkAll elems + uptoBulkAll spare + 1
  | .agg parts => uptoBulkAll parts + 1
  | .iface _ d => uptoBulk d + 1
  | .map entries => uptoBulkEntries entries + 1
  | .held _ => 1
def uptoBulkAll {H : Type} : List (DataW H) → Nat
  | [] => 0
  | d :: r => uptoBulk d + uptoBulkAll r
def uptoBulkEntries {H : Type} : List (Lit × DataW H) → Nat
  | [] => 0
  | x :: r => uptoBulkEntry x + uptoBulkEntries r
def uptoBulkEntry {H : Type} : Lit × DataW H → Nat
  | (.string bytes, d) => bytes.length + uptoBulk d + 1
  | (_, d) => uptoBulk d + 1
 end
def uptoSmall : (H : Type) → List (DataW H) → Bool := fun _ ds => decide (uptoBulkAll ds ≤ 1048576)
def OpenSpec.upto (s : _root_.Go.ChangeSpec) : _root_.Go.OpenSpec := { _root_.Go.OpenSpec.ofChange s with cond := some uptoSmall }

/-- 'offcutlaw05.VecSparse', WHERE WHAT IT READS IS OF BULK AT MOST 1048576: true; the input reads as it did. -/
def vecSparseUptoRow : OpenClaim := { program := "ytdhkdnmefeeclaa", sum := "2a4ecb068ed1d6e81ae5f2d08871572ae88baf7e1cc6fd7501bed2e9e4c6e3c7", func := "offcut/offcutlaw05.VecSparse", spec := "vecSparse", unfollowed := true, recurses := true, apart := false, narrowed := true }
def VecSparseUptoSaid : Prop := vecSparseUptoRow.holds Try.pinned (OpenSpec.upto vecSparseSpec)

/-- 'offcutlaw05.VecDense', WHERE WHAT IT READS IS OF BULK AT MOST 1048576: true; the input reads as it did. -/
def vecDenseUptoRow : OpenClaim := { program := "ytdhkdnmefeeclaa", sum := "2a4ecb068ed1d6e81ae5f2d08871572ae88baf7e1cc6fd7501bed2e9e4c6e3c7", func := "offcut/offcutlaw05.VecDense", spec := "vecDense", unfollowed := true, recurses := true, apart := false, narrowed := true }
def VecDenseUptoSaid : Prop := vecDenseUptoRow.holds Try.pinned (OpenSpec.upto vecDenseSpec)

/-- 'offcutlaw05.VecSparseDot', WHERE WHAT IT READS IS OF BULK AT MOST 1048576: true; the input reads as it did. -/
def vecSparseDotUptoRow : OpenClaim := { program := "ytdhkdnmefeeclaa", sum := "2a4ecb068ed1d6e81ae5f2d08871572ae88baf7e1cc6fd7501bed2e9e4c6e3c7", func := "offcut/offcutlaw05.VecSparseDot", spec := "vecSparseDot", unfollowed := true, recurses := true, apart := false, narrowed := true }
def VecSparseDotUptoSaid : Prop := vecSparseDotUptoRow.holds Try.pinned (OpenSpec.upto vecSparseDotSpec)

/-- 'offcutlaw05.VecSums', WHERE WHAT IT READS IS OF BULK AT MOST 1048576: true; the input reads as it did. -/
def vecSumsUptoRow : OpenClaim := { program := "ytdhkdnmefeeclaa", sum := "2a4ecb068ed1d6e81ae5f2d08871572ae88baf7e1cc6fd7501bed2e9e4c6e3c7", func := "offcut/offcutlaw05.VecSums", spec := "vecSums", unfollowed := true, recurses := true, apart := false, narrowed := true }
def VecSumsUptoSaid : Prop := vecSumsUptoRow.holds Try.pinned (OpenSpec.upto vecSumsSpec)

/-- 'offcutlaw05.VecRules', WHERE WHAT IT READS IS OF BULK AT MOST 1048576: true; the input reads as it did. -/
def vecRulesUptoRow : OpenClaim := { program := "ytdhkdnmefeeclaa", sum := "2a4ecb068ed1d6e81ae5f2d08871572ae88baf7e1cc6fd7501bed2e9e4c6e3c7", func := "offcut/offcutlaw05.VecRules", spec := "vecRules", unfollowed := true, recurses := true, apart := false, narrowed := true }
def VecRulesUptoSaid : Prop := vecRulesUptoRow.holds Try.pinned (OpenSpec.upto vecRulesSpec)

/-- 'offcutlaw05.VecTells', WHERE WHAT IT READS IS OF BULK AT MOST 1048576: true; the input reads as it did. -/
def vecTellsUptoRow : OpenClaim := { program := "ytdhkdnmefeeclaa", sum := "2a4ecb068ed1d6e81ae5f2d08871572ae88baf7e1cc6fd7501bed2e9e4c6e3c7", func := "offcut/offcutlaw05.VecTells", spec := "vecTells", unfollowed := true, recurses := true, apart := false, narrowed := true }
def VecTellsUptoSaid : Prop := vecTellsUptoRow.holds Try.pinned (OpenSpec.upto vecTellsSpec)

/-- 'offcutlaw06.LinSpans', WHERE WHAT IT READS IS OF BULK AT MOST 1048576: true; the input reads as it did. -/
def linSpansUptoRow : OpenClaim := { program := "ytdhkdnmefeeclaa", sum := "2a4ecb068ed1d6e81ae5f2d08871572ae88baf7e1cc6fd7501bed2e9e4c6e3c7", func := "offcut/offcutlaw06.LinSpans", spec := "linSpans", unfollowed := true, recurses := true, apart := false, narrowed := true }
def LinSpansUptoSaid : Prop := linSpansUptoRow.holds Try.pinned (OpenSpec.upto linSpansSpec)

/-- 'offcutlaw06.LinReduces', WHERE WHAT IT READS IS OF BULK AT MOST 1048576: true; the input reads as it did. -/
def linReducesUptoRow : OpenClaim := { program := "ytdhkdnmefeeclaa", sum := "2a4ecb068ed1d6e81ae5f2d08871572ae88baf7e1cc6fd7501bed2e9e4c6e3c7", func := "offcut/offcutlaw06.LinReduces", spec := "linReduces", unfollowed := true, recurses := true, apart := false, narrowed := true }
def LinReducesUptoSaid : Prop := linReducesUptoRow.holds Try.pinned (OpenSpec.upto linReducesSpec)

/-- 'offcutlaw06.LinRank', WHERE WHAT IT READS IS OF BULK AT MOST 1048576: true; the input reads as it did. -/
def linRankUptoRow : OpenClaim := { program := "ytdhkdnmefeeclaa", sum := "2a4ecb068ed1d6e81ae5f2d08871572ae88baf7e1cc6fd7501bed2e9e4c6e3c7", func := "offcut/offcutlaw06.LinRank", spec := "linRank", unfollowed := true, recurses := true, apart := false, narrowed := true }
def LinRankUptoSaid : Prop := linRankUptoRow.holds Try.pinned (OpenSpec.upto linRankSpec)

/-- 'offcutlaw06.LinSolves', WHERE WHAT IT READS IS OF BULK AT MOST 1048576: true; the input reads as it did. -/
def linSolvesUptoRow : OpenClaim := { program := "ytdhkdnmefeeclaa", sum := "2a4ecb068ed1d6e81ae5f2d08871572ae88baf7e1cc6fd7501bed2e9e4c6e3c7", func := "offcut/offcutlaw06.LinSolves", spec := "linSolves", unfollowed := true, recurses := true, apart := false, narrowed := true }
def LinSolvesUptoSaid : Prop := linSolvesUptoRow.holds Try.pinned (OpenSpec.upto linSolvesSpec)

/-- 'offcutlaw06.LinTurns', WHERE WHAT IT READS IS OF BULK AT MOST 1048576: true; the input reads as it did. -/
def linTurnsUptoRow : OpenClaim := { program := "ytdhkdnmefeeclaa", sum := "2a4ecb068ed1d6e81ae5f2d08871572ae88baf7e1cc6fd7501bed2e9e4c6e3c7", func := "offcut/offcutlaw06.LinTurns", spec := "linTurns", unfollowed := true, recurses := true, apart := false, narrowed := true }
def LinTurnsUptoSaid : Prop := linTurnsUptoRow.holds Try.pinned (OpenSpec.upto linTurnsSpec)

/-- 'offcutlaw11.ShapeFits', WHERE WHAT IT READS IS OF BULK AT MOST 1048576: true; the input reads as it did. -/
def shapeFitsUptoRow : OpenClaim := { program := "ytdhkdnmefeeclaa", sum := "2a4ecb068ed1d6e81ae5f2d08871572ae88baf7e1cc6fd7501bed2e9e4c6e3c7", func := "offcut/offcutlaw11.ShapeFits", spec := "shapeFits", unfollowed := true, recurses := true, apart := false, narrowed := true }
def ShapeFitsUptoSaid : Prop := shapeFitsUptoRow.holds Try.pinned (OpenSpec.upto shapeFitsSpec)

/-- 'offcutlaw11.ShapeOf', WHERE WHAT IT READS IS OF BULK AT MOST 1048576: true; the input reads as it did. -/
def shapeOfUptoRow : OpenClaim := { program := "ytdhkdnmefeeclaa", sum := "2a4ecb068ed1d6e81ae5f2d08871572ae88baf7e1cc6fd7501bed2e9e4c6e3c7", func := "offcut/offcutlaw11.ShapeOf", spec := "shapeOf", unfollowed := true, recurses := true, apart := false, narrowed := true }
def ShapeOfUptoSaid : Prop := shapeOfUptoRow.holds Try.pinned (OpenSpec.upto shapeOfSpec)

/-- 'offcutlaw11.ShapeDoes', WHERE WHAT IT READS IS OF BULK AT MOST 1048576: true; the input reads as it did. -/
def shapeDoesUptoRow : OpenClaim := { program := "ytdhkdnmefeeclaa", sum := "2a4ecb068ed1d6e81ae5f2d08871572ae88baf7e1cc6fd7501bed2e9e4c6e3c7", func := "offcut/offcutlaw11.ShapeDoes", spec := "shapeDoes", unfollowed := true, recurses := true, apart := false, narrowed := true }
def ShapeDoesUptoSaid : Prop := shapeDoesUptoRow.holds Try.pinned (OpenSpec.upto shapeDoesSpec)

/-- 'offcutlaw11.ShapeWith', WHERE WHAT IT READS IS OF BULK AT MOST 1048576: true; the input reads as it did. -/
def shapeWithUptoRow : OpenClaim := { program := "ytdhkdnmefeeclaa", sum := "2a4ecb068ed1d6e81ae5f2d08871572ae88baf7e1cc6fd7501bed2e9e4c6e3c7", func := "offcut/offcutlaw11.ShapeWith", spec := "shapeWith", unfollowed := true, recurses := true, apart := false, narrowed := true }
def ShapeWithUptoSaid : Prop := shapeWithUptoRow.holds Try.pinned (OpenSpec.upto shapeWithSpec)

/-- 'offcutlaw11.ShapeMix', WHERE WHAT IT READS IS OF BULK AT MOST 1048576: true; the input reads as it did. -/
def shapeMixUptoRow : OpenClaim := { program := "ytdhkdnmefeeclaa", sum := "2a4ecb068ed1d6e81ae5f2d08871572ae88baf7e1cc6fd7501bed2e9e4c6e3c7", func := "offcut/offcutlaw11.ShapeMix", spec := "shapeMix", unfollowed := true, recurses := true, apart := false, narrowed := true }
def ShapeMixUptoSaid : Prop := shapeMixUptoRow.holds Try.pinned (OpenSpec.upto shapeMixSpec)

/-- 'offcutlaw11.ShapeBack', WHERE WHAT IT READS IS OF BULK AT MOST 1048576: true; the input reads as it did. -/
def shapeBackUptoRow : OpenClaim := { program := "ytdhkdnmefeeclaa", sum := "2a4ecb068ed1d6e81ae5f2d08871572ae88baf7e1cc6fd7501bed2e9e4c6e3c7", func := "offcut/offcutlaw11.ShapeBack", spec := "shapeBack", unfollowed := true, recurses := true, apart := false, narrowed := true }
def ShapeBackUptoSaid : Prop := shapeBackUptoRow.holds Try.pinned (OpenSpec.upto shapeBackSpec)

/-- 'offcutlaw16.KnapWider', WHERE WHAT IT READS IS OF BULK AT MOST 1048576: true; the input reads as it did. -/
def knapWiderUptoRow : OpenClaim := { program := "ytdhkdnmefeeclaa", sum := "2a4ecb068ed1d6e81ae5f2d08871572ae88baf7e1cc6fd7501bed2e9e4c6e3c7", func := "offcut/offcutlaw16.KnapWider", spec := "knapWider", unfollowed := true, recurses := true, apart := false, narrowed := true }
def KnapWiderUptoSaid : Prop := knapWiderUptoRow.holds Try.pinned (OpenSpec.upto knapWiderSpec)

/-- 'offcutlaw16.KnapMany', WHERE WHAT IT READS IS OF BULK AT MOST 1048576: true; the input reads as it did. -/
def knapManyUptoRow : OpenClaim := { program := "ytdhkdnmefeeclaa", sum := "2a4ecb068ed1d6e81ae5f2d08871572ae88baf7e1cc6fd7501bed2e9e4c6e3c7", func := "offcut/offcutlaw16.KnapMany", spec := "knapMany", unfollowed := true, recurses := true, apart := false, narrowed := true }
def KnapManyUptoSaid : Prop := knapManyUptoRow.holds Try.pinned (OpenSpec.upto knapManySpec)

/-- 'offcutlaw16.KnapNone', WHERE WHAT IT READS IS OF BULK AT MOST 1048576: true; the input reads as it did. -/
def knapNoneUptoRow : OpenClaim := { program := "ytdhkdnmefeeclaa", sum := "2a4ecb068ed1d6e81ae5f2d08871572ae88baf7e1cc6fd7501bed2e9e4c6e3c7", func := "offcut/offcutlaw16.KnapNone", spec := "knapNone", unfollowed := true, recurses := true, apart := false, narrowed := true }
def KnapNoneUptoSaid : Prop := knapNoneUptoRow.holds Try.pinned (OpenSpec.upto knapNoneSpec)

/-- 'offcutlaw16.KnapTurned', WHERE WHAT IT READS IS OF BULK AT MOST 1048576: true; the input reads as it did. -/
def knapTurnedUptoRow : OpenClaim := { program := "ytdhkdnmefeeclaa", sum := "2a4ecb068ed1d6e81ae5f2d08871572ae88baf7e1cc6fd7501bed2e9e4c6e3c7", func := "offcut/offcutlaw16.KnapTurned", spec := "knapTurned", unfollowed := true, recurses := true, apart := false, narrowed := true }
def KnapTurnedUptoSaid : Prop := knapTurnedUptoRow.holds Try.pinned (OpenSpec.upto knapTurnedSpec)

/-- 'offcutlaw16.KnapBest', WHERE WHAT IT READS IS OF BULK AT MOST 1048576: true; the input reads as it did. -/
def knapBestUptoRow : OpenClaim := { program := "ytdhkdnmefeeclaa", sum := "2a4ecb068ed1d6e81ae5f2d08871572ae88baf7e1cc6fd7501bed2e9e4c6e3c7", func := "offcut/offcutlaw16.KnapBest", spec := "knapBest", unfollowed := true, recurses := true, apart := false, narrowed := true }
def KnapBestUptoSaid : Prop := knapBestUptoRow.holds Try.pinned (OpenSpec.upto knapBestSpec)

/-- 'offcutlaw16.KnapFits', WHERE WHAT IT READS IS OF BULK AT MOST 1048576: true; the input reads as it did. -/
def knapFitsUptoRow : OpenClaim := { program := "ytdhkdnmefeeclaa", sum := "2a4ecb068ed1d6e81ae5f2d08871572ae88baf7e1cc6fd7501bed2e9e4c6e3c7", func := "offcut/offcutlaw16.KnapFits", spec := "knapFits", unfollowed := true, recurses := true, apart := false, narrowed := true }
def KnapFitsUptoSaid : Prop := knapFitsUptoRow.holds Try.pinned (OpenSpec.upto knapFitsSpec)

end Rows
end Go.Proofs.Ytdhkdnmefeeclaa
