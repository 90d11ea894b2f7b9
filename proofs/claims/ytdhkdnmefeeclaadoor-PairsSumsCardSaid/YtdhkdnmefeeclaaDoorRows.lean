/-
  NARROWER THAN 'FOR EVERY INPUT', by the rows' own cells (each row's printed sentence says how): PairsSplit: laid · PairsWhole: laid · PairsEnd: laid · PairsSums: laid · PatternKeeps: laid · PatternAll: laid · PatternRules: laid · PatternParts: laid · PatternOnes: laid · PairsTogether: laid · PatternBest: laid.
  DERIVED. THE GIVEN ROWS OF THIS SEAT. 11 by the template 'for every input the law returns true; each argument reads behind the call as it read before'; 0 by the template 'total and deterministic' (their statements: YtdhkdnmefeeclaaDoorTotals.lean).
  GIVEN WITH THE SEED: the statements are not yours to turn. If you find one false, say at which input.
  Laid BY PROGRAM, IN A SANDBOX (cutbox-rows.mjs): the forced cells as the released guide's own fill.sh prints them over the translation 1c8ac1a316e0bee9… (all of the seat's roots in one cut). By AI agents, Wed Nov 11 2026. No macro, syntax, notation, axiom, sorry.
-/
import Derived.Test.YtdhkdnmefeeclaaDoorChecked
import GoSem.Claim
import GoSem.ClaimJoined
import GoSem.ClaimMapViews
import Derived.JoinedTies
import Derived.KernelRfl
namespace Go.Proofs.YtdhkdnmefeeclaaDoor
/- THE CELL 'sum', in the pinned program and in every row, IS THE sha256 OF THE DUMP (.gsa) THAT YtdhkdnmefeeclaaDoorProg.lean LOADS. Nothing in Lean hashes anything: it is a label: what it is worth is what the hold of that sum in a sandbox is worth. -/
noncomputable def Tryd.pinned : Pinned := { name := "ytdhkdnmefeeclaadoor", sum := "1c8ac1a316e0bee9ed378838acc74f130dcbca027a889aacddf9ade7a52a20e9", checked := Tryd.checked }
namespace Rows
def none {H : Type} : Left H := { results := [], args := [] }

/- WHAT THE LISTED PACKAGE-LEVEL VARIABLES READ AS WHEN THE CALL BEGINS. Each datum BY PROGRAM (the guide's laid-datum.mjs) off the statement by which the dump's own 'gosem.cut.vars' lays the variable. In a bare row this is a premise. The card (YtdhkdnmefeeclaaDoorCards.lean) ties it to the program's text. -/
def laid_math_bits_deBruijn32tab {H : Type} : DataW H := .agg [.lit (.int .u8 0), .lit (.int .u8 1), .lit (.int .u8 28), .lit (.int .u8 2), .lit (.int .u8 29), .lit (.int .u8 14), .lit (.int .u8 24), .lit (.int .u8 3), .lit (.int .u8 30), .lit (.int .u8 22), .lit (.int .u8 20), .lit (.int .u8 15), .lit (.int .u8 25), .lit (.int .u8 17), .lit (.int .u8 4), .lit (.int .u8 8), .lit (.int .u8 31), .lit (.int .u8 27), .lit (.int .u8 13), .lit (.int .u8 23), .lit (.int .u8 21), .lit (.int .u8 19), .lit (.int .u8 16), .lit (.int .u8 7), .lit (.int .u8 26), .lit (.int .u8 12), .lit (.int .u8 18), .lit (.int .u8 6), .lit (.int .u8 11), .lit (.int .u8 5), .lit (.int .u8 10), .lit (.int .u8 9)]
def laid_math_bits_deBruijn64tab {H : Type} : DataW H := .agg [.lit (.int .u8 0), .lit (.int .u8 1), .lit (.int .u8 56), .lit (.int .u8 2), .lit (.int .u8 57), .lit (.int .u8 49), .lit (.int .u8 28), .lit (.int .u8 3), .lit (.int .u8 61), .lit (.int .u8 58), .lit (.int .u8 42), .lit (.int .u8 50), .lit (.int .u8 38), .lit (.int .u8 29), .lit (.int .u8 17), .lit (.int .u8 4), .lit (.int .u8 62), .lit (.int .u8 47), .lit (.int .u8 59), .lit (.int .u8 36), .lit (.int .u8 45), .lit (.int .u8 43), .lit (.int .u8 51), .lit (.int .u8 22), .lit (.int .u8 53), .lit (.int .u8 39), .lit (.int .u8 33), .lit (.int .u8 30), .lit (.int .u8 24), .lit (.int .u8 18), .lit (.int .u8 12), .lit (.int .u8 5), .lit (.int .u8 63), .lit (.int .u8 55), .lit (.int .u8 48), .lit (.int .u8 27), .lit (.int .u8 60), .lit (.int .u8 41), .lit (.int .u8 37), .lit (.int .u8 16), .lit (.int .u8 46), .lit (.int .u8 35), .lit (.int .u8 44), .lit (.int .u8 21), .lit (.int .u8 52), .lit (.int .u8 32), .lit (.int .u8 23), .lit (.int .u8 11), .lit (.int .u8 54), .lit (.int .u8 26), .lit (.int .u8 40), .lit (.int .u8 15), .lit (.int .u8 34), .lit (.int .u8 20), .lit (.int .u8 31), .lit (.int .u8 10), .lit (.int .u8 25), .lit (.int .u8 14), .lit (.int .u8 19), .lit (.int .u8 9), .lit (.int .u8 13), .lit (.int .u8 8), .lit (.int .u8 7), .lit (.int .u8 6)]

/-- 'offcutlaw19.PairsSplit': WHATEVER THE INPUT: true; the input reads as it did. -/
def pairsSplitSpec : ChangeSpec := { name := "pairsSplit", fn := fun _ => fun
  | [d1, d2] => { results := [.lit (.bool true)], args := [d1, d2] }
  | _ => none }
def pairsSplitRow : OpenClaim := { program := "ytdhkdnmefeeclaadoor", sum := "1c8ac1a316e0bee9ed378838acc74f130dcbca027a889aacddf9ade7a52a20e9", func := "offcut/offcutlaw19.PairsSplit", spec := "pairsSplit", unfollowed := true, recurses := true, named := ["math/bits.deBruijn32tab", "math/bits.deBruijn64tab"], apart := false, laid := [("math/bits.deBruijn32tab", laid_math_bits_deBruijn32tab), ("math/bits.deBruijn64tab", laid_math_bits_deBruijn64tab)] }
def PairsSplitSaid : Prop := pairsSplitRow.holds Tryd.pinned (OpenSpec.ofChange pairsSplitSpec)

/-- ITS FALSE NEIGHBOUR: 'it returns false'. Refute it at one input. -/
def pairsSplitWrong : ChangeSpec := { name := "pairsSplit", fn := fun _ => fun
  | [d1, d2] => { results := [.lit (.bool false)], args := [d1, d2] }
  | _ => none }
def PairsSplitWrongFalsely : Prop := pairsSplitRow.holds Tryd.pinned (OpenSpec.ofChange pairsSplitWrong)

/-- 'offcutlaw19.PairsWhole': WHATEVER THE INPUT: true; the input reads as it did. -/
def pairsWholeSpec : ChangeSpec := { name := "pairsWhole", fn := fun _ => fun
  | [d] => { results := [.lit (.bool true)], args := [d] }
  | _ => none }
def pairsWholeRow : OpenClaim := { program := "ytdhkdnmefeeclaadoor", sum := "1c8ac1a316e0bee9ed378838acc74f130dcbca027a889aacddf9ade7a52a20e9", func := "offcut/offcutlaw19.PairsWhole", spec := "pairsWhole", unfollowed := true, recurses := true, named := ["math/bits.deBruijn32tab", "math/bits.deBruijn64tab"], apart := false, laid := [("math/bits.deBruijn32tab", laid_math_bits_deBruijn32tab), ("math/bits.deBruijn64tab", laid_math_bits_deBruijn64tab)] }
def PairsWholeSaid : Prop := pairsWholeRow.holds Tryd.pinned (OpenSpec.ofChange pairsWholeSpec)

/-- ITS FALSE NEIGHBOUR: 'it returns false'. Refute it at one input. -/
def pairsWholeWrong : ChangeSpec := { name := "pairsWhole", fn := fun _ => fun
  | [d] => { results := [.lit (.bool false)], args := [d] }
  | _ => none }
def PairsWholeWrongFalsely : Prop := pairsWholeRow.holds Tryd.pinned (OpenSpec.ofChange pairsWholeWrong)

/-- 'offcutlaw19.PairsEnd': WHATEVER THE INPUT: true; the input reads as it did. -/
def pairsEndSpec : ChangeSpec := { name := "pairsEnd", fn := fun _ => fun
  | [d1, d2] => { results := [.lit (.bool true)], args := [d1, d2] }
  | _ => none }
def pairsEndRow : OpenClaim := { program := "ytdhkdnmefeeclaadoor", sum := "1c8ac1a316e0bee9ed378838acc74f130dcbca027a889aacddf9ade7a52a20e9", func := "offcut/offcutlaw19.PairsEnd", spec := "pairsEnd", unfollowed := true, recurses := true, named := ["math/bits.deBruijn32tab", "math/bits.deBruijn64tab"], apart := false, laid := [("math/bits.deBruijn32tab", laid_math_bits_deBruijn32tab), ("math/bits.deBruijn64tab", laid_math_bits_deBruijn64tab)] }
def PairsEndSaid : Prop := pairsEndRow.holds Tryd.pinned (OpenSpec.ofChange pairsEndSpec)

/-- ITS FALSE NEIGHBOUR: 'it returns false'. Refute it at one input. -/
def pairsEndWrong : ChangeSpec := { name := "pairsEnd", fn := fun _ => fun
  | [d1, d2] => { results := [.lit (.bool false)], args := [d1, d2] }
  | _ => none }
def PairsEndWrongFalsely : Prop := pairsEndRow.holds Tryd.pinned (OpenSpec.ofChange pairsEndWrong)

/-- 'offcutlaw19.PairsSums': WHATEVER THE INPUT: true; the input reads as it did. -/
def pairsSumsSpec : ChangeSpec := { name := "pairsSums", fn := fun _ => fun
  | [d1, d2, d3, d4] => { results := [.lit (.bool true)], args := [d1, d2, d3, d4] }
  | _ => none }
def pairsSumsRow : OpenClaim := { program := "ytdhkdnmefeeclaadoor", sum := "1c8ac1a316e0bee9ed378838acc74f130dcbca027a889aacddf9ade7a52a20e9", func := "offcut/offcutlaw19.PairsSums", spec := "pairsSums", unfollowed := true, recurses := true, named := ["math/bits.deBruijn32tab", "math/bits.deBruijn64tab"], apart := false, laid := [("math/bits.deBruijn32tab", laid_math_bits_deBruijn32tab), ("math/bits.deBruijn64tab", laid_math_bits_deBruijn64tab)] }
def PairsSumsSaid : Prop := pairsSumsRow.holds Tryd.pinned (OpenSpec.ofChange pairsSumsSpec)

/-- ITS FALSE NEIGHBOUR: 'it returns false'. Refute it at one input. -/
def pairsSumsWrong : ChangeSpec := { name := "pairsSums", fn := fun _ => fun
  | [d1, d2, d3, d4] => { results := [.lit (.bool false)], args := [d1, d2, d3, d4] }
  | _ => none }
def PairsSumsWrongFalsely : Prop := pairsSumsRow.holds Tryd.pinned (OpenSpec.ofChange pairsSumsWrong)

/-- 'offcutlaw18.PatternKeeps': WHATEVER THE INPUT: true; the input reads as it did. -/
def patternKeepsSpec : ChangeSpec := { name := "patternKeeps", fn := fun _ => fun
  | [d1, d2] => { results := [.lit (.bool true)], args := [d1, d2] }
  | _ => none }
def patternKeepsRow : OpenClaim := { program := "ytdhkdnmefeeclaadoor", sum := "1c8ac1a316e0bee9ed378838acc74f130dcbca027a889aacddf9ade7a52a20e9", func := "offcut/offcutlaw18.PatternKeeps", spec := "patternKeeps", unfollowed := true, recurses := true, named := ["math/bits.deBruijn32tab", "math/bits.deBruijn64tab"], apart := false, laid := [("math/bits.deBruijn32tab", laid_math_bits_deBruijn32tab), ("math/bits.deBruijn64tab", laid_math_bits_deBruijn64tab)] }
def PatternKeepsSaid : Prop := patternKeepsRow.holds Tryd.pinned (OpenSpec.ofChange patternKeepsSpec)

/-- ITS FALSE NEIGHBOUR: 'it returns false'. Refute it at one input. -/
def patternKeepsWrong : ChangeSpec := { name := "patternKeeps", fn := fun _ => fun
  | [d1, d2] => { results := [.lit (.bool false)], args := [d1, d2] }
  | _ => none }
def PatternKeepsWrongFalsely : Prop := patternKeepsRow.holds Tryd.pinned (OpenSpec.ofChange patternKeepsWrong)

/-- 'offcutlaw18.PatternAll': WHATEVER THE INPUT: true; the input reads as it did. -/
def patternAllSpec : ChangeSpec := { name := "patternAll", fn := fun _ => fun
  | [d1, d2, d3] => { results := [.lit (.bool true)], args := [d1, d2, d3] }
  | _ => none }
def patternAllRow : OpenClaim := { program := "ytdhkdnmefeeclaadoor", sum := "1c8ac1a316e0bee9ed378838acc74f130dcbca027a889aacddf9ade7a52a20e9", func := "offcut/offcutlaw18.PatternAll", spec := "patternAll", unfollowed := true, recurses := true, named := ["math/bits.deBruijn32tab", "math/bits.deBruijn64tab"], apart := false, laid := [("math/bits.deBruijn32tab", laid_math_bits_deBruijn32tab), ("math/bits.deBruijn64tab", laid_math_bits_deBruijn64tab)] }
def PatternAllSaid : Prop := patternAllRow.holds Tryd.pinned (OpenSpec.ofChange patternAllSpec)

/-- ITS FALSE NEIGHBOUR: 'it returns false'. Refute it at one input. -/
def patternAllWrong : ChangeSpec := { name := "patternAll", fn := fun _ => fun
  | [d1, d2, d3] => { results := [.lit (.bool false)], args := [d1, d2, d3] }
  | _ => none }
def PatternAllWrongFalsely : Prop := patternAllRow.holds Tryd.pinned (OpenSpec.ofChange patternAllWrong)

/-- 'offcutlaw18.PatternRules': WHATEVER THE INPUT: true; the input reads as it did. -/
def patternRulesSpec : ChangeSpec := { name := "patternRules", fn := fun _ => fun
  | [d1, d2, d3, d4] => { results := [.lit (.bool true)], args := [d1, d2, d3, d4] }
  | _ => none }
def patternRulesRow : OpenClaim := { program := "ytdhkdnmefeeclaadoor", sum := "1c8ac1a316e0bee9ed378838acc74f130dcbca027a889aacddf9ade7a52a20e9", func := "offcut/offcutlaw18.PatternRules", spec := "patternRules", unfollowed := true, recurses := true, named := ["math/bits.deBruijn32tab", "math/bits.deBruijn64tab"], apart := false, laid := [("math/bits.deBruijn32tab", laid_math_bits_deBruijn32tab), ("math/bits.deBruijn64tab", laid_math_bits_deBruijn64tab)] }
def PatternRulesSaid : Prop := patternRulesRow.holds Tryd.pinned (OpenSpec.ofChange patternRulesSpec)

/-- ITS FALSE NEIGHBOUR: 'it returns false'. Refute it at one input. -/
def patternRulesWrong : ChangeSpec := { name := "patternRules", fn := fun _ => fun
  | [d1, d2, d3, d4] => { results := [.lit (.bool false)], args := [d1, d2, d3, d4] }
  | _ => none }
def PatternRulesWrongFalsely : Prop := patternRulesRow.holds Tryd.pinned (OpenSpec.ofChange patternRulesWrong)

/-- 'offcutlaw18.PatternParts': WHATEVER THE INPUT: true; the input reads as it did. -/
def patternPartsSpec : ChangeSpec := { name := "patternParts", fn := fun _ => fun
  | [d1, d2, d3, d4] => { results := [.lit (.bool true)], args := [d1, d2, d3, d4] }
  | _ => none }
def patternPartsRow : OpenClaim := { program := "ytdhkdnmefeeclaadoor", sum := "1c8ac1a316e0bee9ed378838acc74f130dcbca027a889aacddf9ade7a52a20e9", func := "offcut/offcutlaw18.PatternParts", spec := "patternParts", unfollowed := true, recurses := true, named := ["math/bits.deBruijn32tab", "math/bits.deBruijn64tab"], apart := false, laid := [("math/bits.deBruijn32tab", laid_math_bits_deBruijn32tab), ("math/bits.deBruijn64tab", laid_math_bits_deBruijn64tab)] }
def PatternPartsSaid : Prop := patternPartsRow.holds Tryd.pinned (OpenSpec.ofChange patternPartsSpec)

/-- ITS FALSE NEIGHBOUR: 'it returns false'. Refute it at one input. -/
def patternPartsWrong : ChangeSpec := { name := "patternParts", fn := fun _ => fun
  | [d1, d2, d3, d4] => { results := [.lit (.bool false)], args := [d1, d2, d3, d4] }
  | _ => none }
def PatternPartsWrongFalsely : Prop := patternPartsRow.holds Tryd.pinned (OpenSpec.ofChange patternPartsWrong)

/-- 'offcutlaw18.PatternOnes': WHATEVER THE INPUT: true; the input reads as it did. -/
def patternOnesSpec : ChangeSpec := { name := "patternOnes", fn := fun _ => fun
  | [d1, d2] => { results := [.lit (.bool true)], args := [d1, d2] }
  | _ => none }
def patternOnesRow : OpenClaim := { program := "ytdhkdnmefeeclaadoor", sum := "1c8ac1a316e0bee9ed378838acc74f130dcbca027a889aacddf9ade7a52a20e9", func := "offcut/offcutlaw18.PatternOnes", spec := "patternOnes", unfollowed := true, recurses := true, named := ["math/bits.deBruijn32tab", "math/bits.deBruijn64tab"], apart := false, laid := [("math/bits.deBruijn32tab", laid_math_bits_deBruijn32tab), ("math/bits.deBruijn64tab", laid_math_bits_deBruijn64tab)] }
def PatternOnesSaid : Prop := patternOnesRow.holds Tryd.pinned (OpenSpec.ofChange patternOnesSpec)

/-- ITS FALSE NEIGHBOUR: 'it returns false'. Refute it at one input. -/
def patternOnesWrong : ChangeSpec := { name := "patternOnes", fn := fun _ => fun
  | [d1, d2] => { results := [.lit (.bool false)], args := [d1, d2] }
  | _ => none }
def PatternOnesWrongFalsely : Prop := patternOnesRow.holds Tryd.pinned (OpenSpec.ofChange patternOnesWrong)

/-- 'offcutlaw19.PairsTogether': WHATEVER THE INPUT: true; the input reads as it did. -/
def pairsTogetherSpec : ChangeSpec := { name := "pairsTogether", fn := fun _ => fun
  | [d1, d2, d3, d4] => { results := [.lit (.bool true)], args := [d1, d2, d3, d4] }
  | _ => none }
def pairsTogetherRow : OpenClaim := { program := "ytdhkdnmefeeclaadoor", sum := "1c8ac1a316e0bee9ed378838acc74f130dcbca027a889aacddf9ade7a52a20e9", func := "offcut/offcutlaw19.PairsTogether", spec := "pairsTogether", unfollowed := true, recurses := true, named := ["math/bits.deBruijn32tab", "math/bits.deBruijn64tab"], apart := false, laid := [("math/bits.deBruijn32tab", laid_math_bits_deBruijn32tab), ("math/bits.deBruijn64tab", laid_math_bits_deBruijn64tab)] }
def PairsTogetherSaid : Prop := pairsTogetherRow.holds Tryd.pinned (OpenSpec.ofChange pairsTogetherSpec)

/-- ITS FALSE NEIGHBOUR: 'it returns false'. Refute it at one input. -/
def pairsTogetherWrong : ChangeSpec := { name := "pairsTogether", fn := fun _ => fun
  | [d1, d2, d3, d4] => { results := [.lit (.bool false)], args := [d1, d2, d3, d4] }
  | _ => none }
def PairsTogetherWrongFalsely : Prop := pairsTogetherRow.holds Tryd.pinned (OpenSpec.ofChange pairsTogetherWrong)

/-- 'offcutlaw18.PatternBest': WHATEVER THE INPUT: true; the input reads as it did. -/
def patternBestSpec : ChangeSpec := { name := "patternBest", fn := fun _ => fun
  | [d1, d2, d3, d4] => { results := [.lit (.bool true)], args := [d1, d2, d3, d4] }
  | _ => none }
def patternBestRow : OpenClaim := { program := "ytdhkdnmefeeclaadoor", sum := "1c8ac1a316e0bee9ed378838acc74f130dcbca027a889aacddf9ade7a52a20e9", func := "offcut/offcutlaw18.PatternBest", spec := "patternBest", unfollowed := true, recurses := true, named := ["math/bits.deBruijn32tab", "math/bits.deBruijn64tab"], apart := false, laid := [("math/bits.deBruijn32tab", laid_math_bits_deBruijn32tab), ("math/bits.deBruijn64tab", laid_math_bits_deBruijn64tab)] }
def PatternBestSaid : Prop := patternBestRow.holds Tryd.pinned (OpenSpec.ofChange patternBestSpec)

/-- ITS FALSE NEIGHBOUR: 'it returns false'. Refute it at one input. -/
def patternBestWrong : ChangeSpec := { name := "patternBest", fn := fun _ => fun
  | [d1, d2, d3, d4] => { results := [.lit (.bool false)], args := [d1, d2, d3, d4] }
  | _ => none }
def PatternBestWrongFalsely : Prop := patternBestRow.holds Tryd.pinned (OpenSpec.ofChange patternBestWrong)

/- THE SECOND FORM. 'bulk': how many values and letters a reading holds, each counted each time it is reached (what is shared counts as often as it is met; a slice's spare places count too). A statement '..UptoSaid' is the law's where the arguments, and the package variables that the reading takes, are together of bulk at most 1048576: NARROWER than '..Said'. Prove '..Said' where nothing that the law and all that it calls make is longer than what came in: it says more and counts as full. Else prove '..UptoSaid'. A law counts once. -/
mutual
def uptoBulk {H : Type} : DataW H → Nat
  | .lit (.string bytes) => bytes.length + 1
  | .lit _ => 1
  | .nil => 1
  | .ptr d => uptoBulk d + 1
  | .slice elems spare => uptoBulkAll elems + uptoBulkAll spare + 1
  | .agg parts => uptoBulkAll parts + 1
  | .iface _ d => uptoBulk d + 1
  | .map entries => uptoBulkEntries entries + 1
  | .held _ => 1
def uptoBulkAll {H : Type} : List (DataW H) → Nat
  | [] => 0
  | d :: r => uptoBulk d + uptoBulkAll r
def uptoBulkEntries {H : Type} : List (Lit × DataW H) → Nat
  | [] => 0
  | x :: r => uptoBulkEntry x + uptoBulkEntries r
def uptoBulkEntry {H : Type} : Lit × DataW H → Nat
  | (.string bytes, d) => bytes.length + uptoBulk d + 1
  | (_, d) => uptoBulk d + 1
 end
def uptoSmall : (H : Type) → List (DataW H) → Bool := fun _ ds => decide (uptoBulkAll ds ≤ 1048576)
def OpenSpec.upto (s : _root_.Go.ChangeSpec) : _root_.Go.OpenSpec := { _root_.Go.OpenSpec.ofChange s with cond := some uptoSmall }

/-- 'offcutlaw19.PairsSplit', WHERE WHAT IT READS IS OF BULK AT MOST 1048576: true; the input reads as it did. -/
def pairsSplitUptoRow : OpenClaim := { program := "ytdhkdnmefeeclaadoor", sum := "1c8ac1a316e0bee9ed378838acc74f130dcbca027a889aacddf9ade7a52a20e9", func := "offcut/offcutlaw19.PairsSplit", spec := "pairsSplit", unfollowed := true, recurses := true, named := ["math/bits.deBruijn32tab", "math/bits.deBruijn64tab"], apart := false, laid := [("math/bits.deBruijn32tab", laid_math_bits_deBruijn32tab), ("math/bits.deBruijn64tab", laid_math_bits_deBruijn64tab)], narrowed := true }
def PairsSplitUptoSaid : Prop := pairsSplitUptoRow.holds Tryd.pinned (OpenSpec.upto pairsSplitSpec)

/-- 'offcutlaw19.PairsWhole', WHERE WHAT IT READS IS OF BULK AT MOST 1048576: true; the input reads as it did. -/
def pairsWholeUptoRow : OpenClaim := { program := "ytdhkdnmefeeclaadoor", sum := "1c8ac1a316e0bee9ed378838acc74f130dcbca027a889aacddf9ade7a52a20e9", func := "offcut/offcutlaw19.PairsWhole", spec := "pairsWhole", unfollowed := true, recurses := true, named := ["math/bits.deBruijn32tab", "math/bits.deBruijn64tab"], apart := false, laid := [("math/bits.deBruijn32tab", laid_math_bits_deBruijn32tab), ("math/bits.deBruijn64tab", laid_math_bits_deBruijn64tab)], narrowed := true }
def PairsWholeUptoSaid : Prop := pairsWholeUptoRow.holds Tryd.pinned (OpenSpec.upto pairsWholeSpec)

/-- 'offcutlaw19.PairsEnd', WHERE WHAT IT READS IS OF BULK AT MOST 1048576: true; the input reads as it did. -/
def pairsEndUptoRow : OpenClaim := { program := "ytdhkdnmefeeclaadoor", sum := "1c8ac1a316e0bee9ed378838acc74f130dcbca027a889aacddf9ade7a52a20e9", func := "offcut/offcutlaw19.PairsEnd", spec := "pairsEnd", unfollowed := true, recurses := true, named := ["math/bits.deBruijn32tab", "math/bits.deBruijn64tab"], apart := false, laid := [("math/bits.deBruijn32tab", laid_math_bits_deBruijn32tab), ("math/bits.deBruijn64tab", laid_math_bits_deBruijn64tab)], narrowed := true }
def PairsEndUptoSaid : Prop := pairsEndUptoRow.holds Tryd.pinned (OpenSpec.upto pairsEndSpec)

/-- 'offcutlaw19.PairsSums', WHERE WHAT IT READS IS OF BULK AT MOST 1048576: true; the input reads as it did. -/
def pairsSumsUptoRow : OpenClaim := { program := "ytdhkdnmefeeclaadoor", sum := "1c8ac1a316e0bee9ed378838acc74f130dcbca027a889aacddf9ade7a52a20e9", func := "offcut/offcutlaw19.PairsSums", spec := "pairsSums", unfollowed := true, recurses := true, named := ["math/bits.deBruijn32tab", "math/bits.deBruijn64tab"], apart := false, laid := [("math/bits.deBruijn32tab", laid_math_bits_deBruijn32tab), ("math/bits.deBruijn64tab", laid_math_bits_deBruijn64tab)], narrowed := true }
def PairsSumsUptoSaid : Prop := pairsSumsUptoRow.holds Tryd.pinned (OpenSpec.upto pairsSumsSpec)

/-- 'offcutlaw18.PatternKeeps', WHERE WHAT IT READS IS OF BULK AT MOST 1048576: true; the input reads as it did. -/
def patternKeepsUptoRow : OpenClaim := { program := "ytdhkdnmefeeclaadoor", sum := "1c8ac1a316e0bee9ed378838acc74f130dcbca027a889aacddf9ade7a52a20e9", func := "offcut/offcutlaw18.PatternKeeps", spec := "patternKeeps", unfollowed := true, recurses := true, named := ["math/bits.deBruijn32tab", "math/bits.deBruijn64tab"], apart := false, laid := [("math/bits.deBruijn32tab", laid_math_bits_deBruijn32tab), ("math/bits.deBruijn64tab", laid_math_bits_deBruijn64tab)], narrowed := true }
def PatternKeepsUptoSaid : Prop := patternKeepsUptoRow.holds Tryd.pinned (OpenSpec.upto patternKeepsSpec)

/-- 'offcutlaw18.PatternAll', WHERE WHAT IT READS IS OF BULK AT MOST 1048576: true; the input reads as it did. -/
def patternAllUptoRow : OpenClaim := { program := "ytdhkdnmefeeclaadoor", sum := "1c8ac1a316e0bee9ed378838acc74f130dcbca027a889aacddf9ade7a52a20e9", func := "offcut/offcutlaw18.PatternAll", spec := "patternAll", unfollowed := true, recurses := true, named := ["math/bits.deBruijn32tab", "math/bits.deBruijn64tab"], apart := false, laid := [("math/bits.deBruijn32tab", laid_math_bits_deBruijn32tab), ("math/bits.deBruijn64tab", laid_math_bits_deBruijn64tab)], narrowed := true }
def PatternAllUptoSaid : Prop := patternAllUptoRow.holds Tryd.pinned (OpenSpec.upto patternAllSpec)

/-- 'offcutlaw18.PatternRules', WHERE WHAT IT READS IS OF BULK AT MOST 1048576: true; the input reads as it did. -/
def patternRulesUptoRow : OpenClaim := { program := "ytdhkdnmefeeclaadoor", sum := "1c8ac1a316e0bee9ed378838acc74f130dcbca027a889aacddf9ade7a52a20e9", func := "offcut/offcutlaw18.PatternRules", spec := "patternRules", unfollowed := true, recurses := true, named := ["math/bits.deBruijn32tab", "math/bits.deBruijn64tab"], apart := false, laid := [("math/bits.deBruijn32tab", laid_math_bits_deBruijn32tab), ("math/bits.deBruijn64tab", laid_math_bits_deBruijn64tab)], narrowed := true }
def PatternRulesUptoSaid : Prop := patternRulesUptoRow.holds Tryd.pinned (OpenSpec.upto patternRulesSpec)

/-- 'offcutlaw18.PatternParts', WHERE WHAT IT READS IS OF BULK AT MOST 1048576: true; the input reads as it did. -/
def patternPartsUptoRow : OpenClaim := { program := "ytdhkdnmefeeclaadoor", sum := "1c8ac1a316e0bee9ed378838acc74f130dcbca027a889aacddf9ade7a52a20e9", func := "offcut/offcutlaw18.PatternParts", spec := "patternParts", unfollowed := true, recurses := true, named := ["math/bits.deBruijn32tab", "math/bits.deBruijn64tab"], apart := false, laid := [("math/bits.deBruijn32tab", laid_math_bits_deBruijn32tab), ("math/bits.deBruijn64tab", laid_math_bits_deBruijn64tab)], narrowed := true }
def PatternPartsUptoSaid : Prop := patternPartsUptoRow.holds Tryd.pinned (OpenSpec.upto patternPartsSpec)

/-- 'offcutlaw18.PatternOnes', WHERE WHAT IT READS IS OF BULK AT MOST 1048576: true; the input reads as it did. -/
def patternOnesUptoRow : OpenClaim := { program := "ytdhkdnmefeeclaadoor", sum := "1c8ac1a316e0bee9ed378838acc74f130dcbca027a889aacddf9ade7a52a20e9", func := "offcut/offcutlaw18.PatternOnes", spec := "patternOnes", unfollowed := true, recurses := true, named := ["math/bits.deBruijn32tab", "math/bits.deBruijn64tab"], apart := false, laid := [("math/bits.deBruijn32tab", laid_math_bits_deBruijn32tab), ("math/bits.deBruijn64tab", laid_math_bits_deBruijn64tab)], narrowed := true }
def PatternOnesUptoSaid : Prop := patternOnesUptoRow.holds Tryd.pinned (OpenSpec.upto patternOnesSpec)

/-- 'offcutlaw19.PairsTogether', WHERE WHAT IT READS IS OF BULK AT MOST 1048576: true; the input reads as it did. -/
def pairsTogetherUptoRow : OpenClaim := { program := "ytdhkdnmefeeclaadoor", sum := "1c8ac1a316e0bee9ed378838acc74f130dcbca027a889aacddf9ade7a52a20e9", func := "offcut/offcutlaw19.PairsTogether", spec := "pairsTogether", unfollowed := true, recurses := true, named := ["math/bits.deBruijn32tab", "math/bits.deBruijn64tab"], apart := false, laid := [("math/bits.deBruijn32tab", laid_math_bits_deBruijn32tab), ("math/bits.deBruijn64tab", laid_math_bits_deBruijn64tab)], narrowed := true }
def PairsTogetherUptoSaid : Prop := pairsTogetherUptoRow.holds Tryd.pinned (OpenSpec.upto pairsTogetherSpec)

/-- 'offcutlaw18.PatternBest', WHERE WHAT IT READS IS OF BULK AT MOST 1048576: true; the input reads as it did. -/
def patternBestUptoRow : OpenClaim := { program := "ytdhkdnmefeeclaadoor", sum := "1c8ac1a316e0bee9ed378838acc74f130dcbca027a889aacddf9ade7a52a20e9", func := "offcut/offcutlaw18.PatternBest", spec := "patternBest", unfollowed := true, recurses := true, named := ["math/bits.deBruijn32tab", "math/bits.deBruijn64tab"], apart := false, laid := [("math/bits.deBruijn32tab", laid_math_bits_deBruijn32tab), ("math/bits.deBruijn64tab", laid_math_bits_deBruijn64tab)], narrowed := true }
def PatternBestUptoSaid : Prop := patternBestUptoRow.holds Tryd.pinned (OpenSpec.upto patternBestSpec)

end Rows
end Go.Proofs.YtdhkdnmefeeclaaDoor
