/-
  No cell of these rows narrows 'for every input' (looked for: loops, veiled, ifaces, maps, wideKeys, modest, calm, conditions, laid).
  DERIVED. THE GIVEN ROWS OF THIS SEAT. 6 by the template 'for every input the law returns true; each argument reads behind the call as it read before'; 0 by the template 'total and deterministic' (their statements: YtncgbjhojbnecaaGreatTotals.lean).
  GIVEN WITH THE SEED: the statements are not yours to turn. If you find one false, say at which input.
  Laid BY PROGRAM, IN A SANDBOX (cutbox-rows.mjs): the forced cells as the released guide's own fill.sh prints them over the translation 99b3473e16c054e4… (all of the seat's roots in one cut). By AI agents, Wed Nov 11 2026. No macro, syntax, notation, axiom, sorry.
-/
import Derived.Test.YtncgbjhojbnecaaGreatChecked
import GoSem.Claim
import GoSem.ClaimJoined
import GoSem.ClaimMapViews
import Derived.JoinedTies
import Derived.KernelRfl
namespace Go.Proofs.YtncgbjhojbnecaaGreat
/- THE CELL 'sum', in the pinned program and in every row, IS THE sha256 OF THE DUMP (.gsa) THAT YtncgbjhojbnecaaGreatProg.lean LOADS. Nothing in Lean hashes anything: it is a label: what it is worth is what the hold of that sum in a sandbox is worth. -/
noncomputable def Tryz.pinned : Pinned := { name := "ytncgbjhojbnecaagreat", sum := "99b3473e16c054e4afd2430774fbdb2f52e21dd794b8b7547512acaea5cf2d8f", checked := Tryz.checked }
namespace Rows
def none {H : Type} : Left H := { results := [], args := [] }

/-- 'offcutlaw14.PriceOf': WHATEVER THE INPUT: true; the input reads as it did. -/
def priceOfSpec : ChangeSpec := { name := "priceOf", fn := fun _ => fun
  | [d1, d2, d3] => { results := [.lit (.bool true)], args := [d1, d2, d3] }
  | _ => none }
def priceOfRow : OpenClaim := { program := "ytncgbjhojbnecaagreat", sum := "99b3473e16c054e4afd2430774fbdb2f52e21dd794b8b7547512acaea5cf2d8f", func := "offcut/offcutlaw14.PriceOf", spec := "priceOf", unfollowed := true, recurses := true, apart := false }
def PriceOfSaid : Prop := priceOfRow.holds Tryz.pinned (OpenSpec.ofChange priceOfSpec)

/-- ITS FALSE NEIGHBOUR: 'it returns false'. Refute it at one input. -/
def priceOfWrong : ChangeSpec := { name := "priceOf", fn := fun _ => fun
  | [d1, d2, d3] => { results := [.lit (.bool false)], args := [d1, d2, d3] }
  | _ => none }
def PriceOfWrongFalsely : Prop := priceOfRow.holds Tryz.pinned (OpenSpec.ofChange priceOfWrong)

/-- 'offcutlaw14.PriceBudget': WHATEVER THE INPUT: true; the input reads as it did. -/
def priceBudgetSpec : ChangeSpec := { name := "priceBudget", fn := fun _ => fun
  | [d1, d2, d3] => { results := [.lit (.bool true)], args := [d1, d2, d3] }
  | _ => none }
def priceBudgetRow : OpenClaim := { program := "ytncgbjhojbnecaagreat", sum := "99b3473e16c054e4afd2430774fbdb2f52e21dd794b8b7547512acaea5cf2d8f", func := "offcut/offcutlaw14.PriceBudget", spec := "priceBudget", unfollowed := true, recurses := true, apart := false }
def PriceBudgetSaid : Prop := priceBudgetRow.holds Tryz.pinned (OpenSpec.ofChange priceBudgetSpec)

/-- ITS FALSE NEIGHBOUR: 'it returns false'. Refute it at one input. -/
def priceBudgetWrong : ChangeSpec := { name := "priceBudget", fn := fun _ => fun
  | [d1, d2, d3] => { results := [.lit (.bool false)], args := [d1, d2, d3] }
  | _ => none }
def PriceBudgetWrongFalsely : Prop := priceBudgetRow.holds Tryz.pinned (OpenSpec.ofChange priceBudgetWrong)

/-- 'offcutlaw14.PriceShare': WHATEVER THE INPUT: true; the input reads as it did. -/
def priceShareSpec : ChangeSpec := { name := "priceShare", fn := fun _ => fun
  | [d1, d2, d3] => { results := [.lit (.bool true)], args := [d1, d2, d3] }
  | _ => none }
def priceShareRow : OpenClaim := { program := "ytncgbjhojbnecaagreat", sum := "99b3473e16c054e4afd2430774fbdb2f52e21dd794b8b7547512acaea5cf2d8f", func := "offcut/offcutlaw14.PriceShare", spec := "priceShare", unfollowed := true, recurses := true, apart := false }
def PriceShareSaid : Prop := priceShareRow.holds Tryz.pinned (OpenSpec.ofChange priceShareSpec)

/-- ITS FALSE NEIGHBOUR: 'it returns false'. Refute it at one input. -/
def priceShareWrong : ChangeSpec := { name := "priceShare", fn := fun _ => fun
  | [d1, d2, d3] => { results := [.lit (.bool false)], args := [d1, d2, d3] }
  | _ => none }
def PriceShareWrongFalsely : Prop := priceShareRow.holds Tryz.pinned (OpenSpec.ofChange priceShareWrong)

/-- 'offcutlaw14.PriceAsks': WHATEVER THE INPUT: true; the input reads as it did. -/
def priceAsksSpec : ChangeSpec := { name := "priceAsks", fn := fun _ => fun
  | [d1, d2, d3, d4] => { results := [.lit (.bool true)], args := [d1, d2, d3, d4] }
  | _ => none }
def priceAsksRow : OpenClaim := { program := "ytncgbjhojbnecaagreat", sum := "99b3473e16c054e4afd2430774fbdb2f52e21dd794b8b7547512acaea5cf2d8f", func := "offcut/offcutlaw14.PriceAsks", spec := "priceAsks", unfollowed := true, recurses := true, apart := false }
def PriceAsksSaid : Prop := priceAsksRow.holds Tryz.pinned (OpenSpec.ofChange priceAsksSpec)

/-- ITS FALSE NEIGHBOUR: 'it returns false'. Refute it at one input. -/
def priceAsksWrong : ChangeSpec := { name := "priceAsks", fn := fun _ => fun
  | [d1, d2, d3, d4] => { results := [.lit (.bool false)], args := [d1, d2, d3, d4] }
  | _ => none }
def PriceAsksWrongFalsely : Prop := priceAsksRow.holds Tryz.pinned (OpenSpec.ofChange priceAsksWrong)

/-- 'offcutlaw14.PriceBest': WHATEVER THE INPUT: true; the input reads as it did. -/
def priceBestSpec : ChangeSpec := { name := "priceBest", fn := fun _ => fun
  | [d1, d2, d3, d4] => { results := [.lit (.bool true)], args := [d1, d2, d3, d4] }
  | _ => none }
def priceBestRow : OpenClaim := { program := "ytncgbjhojbnecaagreat", sum := "99b3473e16c054e4afd2430774fbdb2f52e21dd794b8b7547512acaea5cf2d8f", func := "offcut/offcutlaw14.PriceBest", spec := "priceBest", unfollowed := true, recurses := true, apart := false }
def PriceBestSaid : Prop := priceBestRow.holds Tryz.pinned (OpenSpec.ofChange priceBestSpec)

/-- ITS FALSE NEIGHBOUR: 'it returns false'. Refute it at one input. -/
def priceBestWrong : ChangeSpec := { name := "priceBest", fn := fun _ => fun
  | [d1, d2, d3, d4] => { results := [.lit (.bool false)], args := [d1, d2, d3, d4] }
  | _ => none }
def PriceBestWrongFalsely : Prop := priceBestRow.holds Tryz.pinned (OpenSpec.ofChange priceBestWrong)

/-- 'offcutlaw14.PriceRays': WHATEVER THE INPUT: true; the input reads as it did. -/
def priceRaysSpec : ChangeSpec := { name := "priceRays", fn := fun _ => fun
  | [d1, d2, d3, d4, d5] => { results := [.lit (.bool true)], args := [d1, d2, d3, d4, d5] }
  | _ => none }
def priceRaysRow : OpenClaim := { program := "ytncgbjhojbnecaagreat", sum := "99b3473e16c054e4afd2430774fbdb2f52e21dd794b8b7547512acaea5cf2d8f", func := "offcut/offcutlaw14.PriceRays", spec := "priceRays", unfollowed := true, recurses := true, apart := false }
def PriceRaysSaid : Prop := priceRaysRow.holds Tryz.pinned (OpenSpec.ofChange priceRaysSpec)

/-- ITS FALSE NEIGHBOUR: 'it returns false'. Refute it at one input. -/
def priceRaysWrong : ChangeSpec := { name := "priceRays", fn := fun _ => fun
  | [d1, d2, d3, d4, d5] => { results := [.lit (.bool false)], args := [d1, d2, d3, d4, d5] }
  | _ => none }
def PriceRaysWrongFalsely : Prop := priceRaysRow.holds Tryz.pinned (OpenSpec.ofChange priceRaysWrong)

/- THE SECOND FORM. 'bulk': how many values and letters a reading holds, each counted each time it is reached (what is shared counts as often as it is met; a slice's spare places count too). A statement '..UptoSaid' is the law's where the arguments, and the package variables that the reading takes, are together of bulk at most 1048576: NARROWER than '..Said'. Prove '..Said' where nothing that the law and all that it calls make is longer than what came in: it says more and counts as full. Else prove '..UptoSaid'. A law counts once. -/
mutual
def uptoBulk {H : Type} : DataW H → Nat
  | .lit (.string bytes) => bytes.length + 1
  | .lit _ => 1
  | .nil => 1
  | .ptr d => uptoBulk d + 1
  | .slice elems spare => uptoBulkAll elems + uptoBulkAll spare + 1
  | .agg parts => uptoBulkAll parts + 1
  | .iface _ d => uptoBulk d + 1
  | .map entries => uptoBulkEntries entries + 1
  | .held _ => 1
def uptoBulkAll {H : Type} : List (DataW H) → Nat
  | [] => 0
  | d :: r => uptoBulk d + uptoBulkAll r
def uptoBulkEntries {H : Type} : List (Lit × DataW H) → Nat
  | [] => 0
  | x :: r => uptoBulkEntry x + uptoBulkEntries r
def uptoBulkEntry {H : Type} : Lit × DataW H → Nat
  | (.string bytes, d) => bytes.length + uptoBulk d + 1
  | (_, d) => uptoBulk d + 1
 end
def uptoSmall : (H : Type) → List (DataW H) → Bool := fun _ ds => decide (uptoBulkAll ds ≤ 1048576)
def OpenSpec.upto (s : _root_.Go.ChangeSpec) : _root_.Go.OpenSpec := { _root_.Go.OpenSpec.ofChange s with cond := some uptoSmall }

/-- 'offcutlaw14.PriceOf', WHERE WHAT IT READS IS OF BULK AT MOST 1048576: true; the input reads as it did. -/
def priceOfUptoRow : OpenClaim := { program := "ytncgbjhojbnecaagreat", sum := "99b3473e16c054e4afd2430774fbdb2f52e21dd794b8b7547512acaea5cf2d8f", func := "offcut/offcutlaw14.PriceOf", spec := "priceOf", unfollowed := true, recurses := true, apart := false, narrowed := true }
def PriceOfUptoSaid : Prop := priceOfUptoRow.holds Tryz.pinned (OpenSpec.upto priceOfSpec)

/-- 'offcutlaw14.PriceBudget', WHERE WHAT IT READS IS OF BULK AT MOST 1048576: true; the input reads as it did. -/
def priceBudgetUptoRow : OpenClaim := { program := "ytncgbjhojbnecaagreat", sum := "99b3473e16c054e4afd2430774fbdb2f52e21dd794b8b7547512acaea5cf2d8f", func := "offcut/offcutlaw14.PriceBudget", spec := "priceBudget", unfollowed := true, recurses := true, apart := false, narrowed := true }
def PriceBudgetUptoSaid : Prop := priceBudgetUptoRow.holds Tryz.pinned (OpenSpec.upto priceBudgetSpec)

/-- 'offcutlaw14.PriceShare', WHERE WHAT IT READS IS OF BULK AT MOST 1048576: true; the input reads as it did. -/
def priceShareUptoRow : OpenClaim := { program := "ytncgbjhojbnecaagreat", sum := "99b3473e16c054e4afd2430774fbdb2f52e21dd794b8b7547512acaea5cf2d8f", func := "offcut/offcutlaw14.PriceShare", spec := "priceShare", unfollowed := true, recurses := true, apart := false, narrowed := true }
def PriceShareUptoSaid : Prop := priceShareUptoRow.holds Tryz.pinned (OpenSpec.upto priceShareSpec)

/-- 'offcutlaw14.PriceAsks', WHERE WHAT IT READS IS OF BULK AT MOST 1048576: true; the input reads as it did. -/
def priceAsksUptoRow : OpenClaim := { program := "ytncgbjhojbnecaagreat", sum := "99b3473e16c054e4afd2430774fbdb2f52e21dd794b8b7547512acaea5cf2d8f", func := "offcut/offcutlaw14.PriceAsks", spec := "priceAsks", unfollowed := true, recurses := true, apart := false, narrowed := true }
def PriceAsksUptoSaid : Prop := priceAsksUptoRow.holds Tryz.pinned (OpenSpec.upto priceAsksSpec)

/-- 'offcutlaw14.PriceBest', WHERE WHAT IT READS IS OF BULK AT MOST 1048576: true; the input reads as it did. -/
def priceBestUptoRow : OpenClaim := { program := "ytncgbjhojbnecaagreat", sum := "99b3473e16c054e4afd2430774fbdb2f52e21dd794b8b7547512acaea5cf2d8f", func := "offcut/offcutlaw14.PriceBest", spec := "priceBest", unfollowed := true, recurses := true, apart := false, narrowed := true }
def PriceBestUptoSaid : Prop := priceBestUptoRow.holds Tryz.pinned (OpenSpec.upto priceBestSpec)

/-- 'offcutlaw14.PriceRays', WHERE WHAT IT READS IS OF BULK AT MOST 1048576: true; the input reads as it did. -/
def priceRaysUptoRow : OpenClaim := { program := "ytncgbjhojbnecaagreat", sum := "99b3473e16c054e4afd2430774fbdb2f52e21dd794b8b7547512acaea5cf2d8f", func := "offcut/offcutlaw14.PriceRays", spec := "priceRays", unfollowed := true, recurses := true, apart := false, narrowed := true }
def PriceRaysUptoSaid : Prop := priceRaysUptoRow.holds Tryz.pinned (OpenSpec.upto priceRaysSpec)

end Rows
end Go.Proofs.YtncgbjhojbnecaaGreat
