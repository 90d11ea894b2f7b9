/-
  DERIVED. GIVEN WITH THE SEED: THE CARDS: each row of YtdhkdnmefeeclaaDoorRows.lean that lists a variable, with what it lists TIED to the program's text (the seventh form; the later family's looks); each row that meets fmt, with fmt's text TOLD by the authors' own Lean function (tested against real Go, not proved from fmt's source: count such statements apart). THE CARD IS WHAT COUNTS. Prove the row's statement (the work); the ties are given (YtdhkdnmefeeclaaDoorTie.lean); close each card by the builder's one call (the guide's Derived/Test/ToyasCard.lean, 'card_holds'). Laid BY PROGRAM, IN A SANDBOX (cutbox-door.mjs). By AI agents, Wed Nov 11 2026. No macro, syntax, notation, axiom, sorry.
-/
import Derived.Test.YtdhkdnmefeeclaaDoorRows
import GoSem.ClaimSeven
namespace Go.Proofs.YtdhkdnmefeeclaaDoor
namespace Rows

/-- THE TIED CARD OF 'offcutlaw19.PairsSplit'. -/
def pairsSplitCard : Claim7 := { stood := { row := pairsSplitRow, standIns := [], harness := (true, "e800a76e7a4ae78992b3357b7156831b380a7cdf5ea6d41e53df4801c27e8aed"), looks := false }, kinds := [], alts := [], laidByText := true, laidKinds := [.data, .data], laidTests := true, laidLooks := .later }
def PairsSplitCardSaid : Prop := Claim7.holds Tryd.pinned (.plain (OpenSpec.ofChange pairsSplitSpec)) pairsSplitCard

/-- THE TIED CARD OF 'offcutlaw19.PairsWhole'. -/
def pairsWholeCard : Claim7 := { stood := { row := pairsWholeRow, standIns := [], harness := (true, "e800a76e7a4ae78992b3357b7156831b380a7cdf5ea6d41e53df4801c27e8aed"), looks := false }, kinds := [], alts := [], laidByText := true, laidKinds := [.data, .data], laidTests := true, laidLooks := .later }
def PairsWholeCardSaid : Prop := Claim7.holds Tryd.pinned (.plain (OpenSpec.ofChange pairsWholeSpec)) pairsWholeCard

/-- THE TIED CARD OF 'offcutlaw19.PairsEnd'. -/
def pairsEndCard : Claim7 := { stood := { row := pairsEndRow, standIns := [], harness := (true, "e800a76e7a4ae78992b3357b7156831b380a7cdf5ea6d41e53df4801c27e8aed"), looks := false }, kinds := [], alts := [], laidByText := true, laidKinds := [.data, .data], laidTests := true, laidLooks := .later }
def PairsEndCardSaid : Prop := Claim7.holds Tryd.pinned (.plain (OpenSpec.ofChange pairsEndSpec)) pairsEndCard

/-- THE TIED CARD OF 'offcutlaw19.PairsSums'. -/
def pairsSumsCard : Claim7 := { stood := { row := pairsSumsRow, standIns := [], harness := (true, "e800a76e7a4ae78992b3357b7156831b380a7cdf5ea6d41e53df4801c27e8aed"), looks := false }, kinds := [], alts := [], laidByText := true, laidKinds := [.data, .data], laidTests := true, laidLooks := .later }
def PairsSumsCardSaid : Prop := Claim7.holds Tryd.pinned (.plain (OpenSpec.ofChange pairsSumsSpec)) pairsSumsCard

/-- THE TIED CARD OF 'offcutlaw18.PatternKeeps'. -/
def patternKeepsCard : Claim7 := { stood := { row := patternKeepsRow, standIns := [], harness := (true, "e800a76e7a4ae78992b3357b7156831b380a7cdf5ea6d41e53df4801c27e8aed"), looks := false }, kinds := [], alts := [], laidByText := true, laidKinds := [.data, .data], laidTests := true, laidLooks := .later }
def PatternKeepsCardSaid : Prop := Claim7.holds Tryd.pinned (.plain (OpenSpec.ofChange patternKeepsSpec)) patternKeepsCard

/-- THE TIED CARD OF 'offcutlaw18.PatternAll'. -/
def patternAllCard : Claim7 := { stood := { row := patternAllRow, standIns := [], harness := (true, "e800a76e7a4ae78992b3357b7156831b380a7cdf5ea6d41e53df4801c27e8aed"), looks := false }, kinds := [], alts := [], laidByText := true, laidKinds := [.data, .data], laidTests := true, laidLooks := .later }
def PatternAllCardSaid : Prop := Claim7.holds Tryd.pinned (.plain (OpenSpec.ofChange patternAllSpec)) patternAllCard

/-- THE TIED CARD OF 'offcutlaw18.PatternRules'. -/
def patternRulesCard : Claim7 := { stood := { row := patternRulesRow, standIns := [], harness := (true, "e800a76e7a4ae78992b3357b7156831b380a7cdf5ea6d41e53df4801c27e8aed"), looks := false }, kinds := [], alts := [], laidByText := true, laidKinds := [.data, .data], laidTests := true, laidLooks := .later }
def PatternRulesCardSaid : Prop := Claim7.holds Tryd.pinned (.plain (OpenSpec.ofChange patternRulesSpec)) patternRulesCard

/-- THE TIED CARD OF 'offcutlaw18.PatternParts'. -/
def patternPartsCard : Claim7 := { stood := { row := patternPartsRow, standIns := [], harness := (true, "e800a76e7a4ae78992b3357b7156831b380a7cdf5ea6d41e53df4801c27e8aed"), looks := false }, kinds := [], alts := [], laidByText := true, laidKinds := [.data, .data], laidTests := true, laidLooks := .later }
def PatternPartsCardSaid : Prop := Claim7.holds Tryd.pinned (.plain (OpenSpec.ofChange patternPartsSpec)) patternPartsCard

/-- THE TIED CARD OF 'offcutlaw18.PatternOnes'. -/
def patternOnesCard : Claim7 := { stood := { row := patternOnesRow, standIns := [], harness := (true, "e800a76e7a4ae78992b3357b7156831b380a7cdf5ea6d41e53df4801c27e8aed"), looks := false }, kinds := [], alts := [], laidByText := true, laidKinds := [.data, .data], laidTests := true, laidLooks := .later }
def PatternOnesCardSaid : Prop := Claim7.holds Tryd.pinned (.plain (OpenSpec.ofChange patternOnesSpec)) patternOnesCard

/-- THE TIED CARD OF 'offcutlaw19.PairsTogether'. -/
def pairsTogetherCard : Claim7 := { stood := { row := pairsTogetherRow, standIns := [], harness := (true, "e800a76e7a4ae78992b3357b7156831b380a7cdf5ea6d41e53df4801c27e8aed"), looks := false }, kinds := [], alts := [], laidByText := true, laidKinds := [.data, .data], laidTests := true, laidLooks := .later }
def PairsTogetherCardSaid : Prop := Claim7.holds Tryd.pinned (.plain (OpenSpec.ofChange pairsTogetherSpec)) pairsTogetherCard

/-- THE TIED CARD OF 'offcutlaw18.PatternBest'. -/
def patternBestCard : Claim7 := { stood := { row := patternBestRow, standIns := [], harness := (true, "e800a76e7a4ae78992b3357b7156831b380a7cdf5ea6d41e53df4801c27e8aed"), looks := false }, kinds := [], alts := [], laidByText := true, laidKinds := [.data, .data], laidTests := true, laidLooks := .later }
def PatternBestCardSaid : Prop := Claim7.holds Tryd.pinned (.plain (OpenSpec.ofChange patternBestSpec)) patternBestCard

/-- THE SECOND FORM's CARD OF 'offcutlaw19.PairsSplit'. -/
def pairsSplitUptoCard : Claim7 := { stood := { row := pairsSplitUptoRow, standIns := [], harness := (true, "e800a76e7a4ae78992b3357b7156831b380a7cdf5ea6d41e53df4801c27e8aed"), looks := false }, kinds := [], alts := [], laidByText := true, laidKinds := [.data, .data], laidTests := true, laidLooks := .later }
def PairsSplitUptoCardSaid : Prop := Claim7.holds Tryd.pinned (.plain (OpenSpec.upto pairsSplitSpec)) pairsSplitUptoCard

/-- THE SECOND FORM's CARD OF 'offcutlaw19.PairsWhole'. -/
def pairsWholeUptoCard : Claim7 := { stood := { row := pairsWholeUptoRow, standIns := [], harness := (true, "e800a76e7a4ae78992b3357b7156831b380a7cdf5ea6d41e53df4801c27e8aed"), looks := false }, kinds := [], alts := [], laidByText := true, laidKinds := [.data, .data], laidTests := true, laidLooks := .later }
def PairsWholeUptoCardSaid : Prop := Claim7.holds Tryd.pinned (.plain (OpenSpec.upto pairsWholeSpec)) pairsWholeUptoCard

/-- THE SECOND FORM's CARD OF 'offcutlaw19.PairsEnd'. -/
def pairsEndUptoCard : Claim7 := { stood := { row := pairsEndUptoRow, standIns := [], harness := (true, "e800a76e7a4ae78992b3357b7156831b380a7cdf5ea6d41e53df4801c27e8aed"), looks := false }, kinds := [], alts := [], laidByText := true, laidKinds := [.data, .data], laidTests := true, laidLooks := .later }
def PairsEndUptoCardSaid : Prop := Claim7.holds Tryd.pinned (.plain (OpenSpec.upto pairsEndSpec)) pairsEndUptoCard

/-- THE SECOND FORM's CARD OF 'offcutlaw19.PairsSums'. -/
def pairsSumsUptoCard : Claim7 := { stood := { row := pairsSumsUptoRow, standIns := [], harness := (true, "e800a76e7a4ae78992b3357b7156831b380a7cdf5ea6d41e53df4801c27e8aed"), looks := false }, kinds := [], alts := [], laidByText := true, laidKinds := [.data, .data], laidTests := true, laidLooks := .later }
def PairsSumsUptoCardSaid : Prop := Claim7.holds Tryd.pinned (.plain (OpenSpec.upto pairsSumsSpec)) pairsSumsUptoCard

/-- THE SECOND FORM's CARD OF 'offcutlaw18.PatternKeeps'. -/
def patternKeepsUptoCard : Claim7 := { stood := { row := patternKeepsUptoRow, standIns := [], harness := (true, "e800a76e7a4ae78992b3357b7156831b380a7cdf5ea6d41e53df4801c27e8aed"), looks := false }, kinds := [], alts := [], laidByText := true, laidKinds := [.data, .data], laidTests := true, laidLooks := .later }
def PatternKeepsUptoCardSaid : Prop := Claim7.holds Tryd.pinned (.plain (OpenSpec.upto patternKeepsSpec)) patternKeepsUptoCard

/-- THE SECOND FORM's CARD OF 'offcutlaw18.PatternAll'. -/
def patternAllUptoCard : Claim7 := { stood := { row := patternAllUptoRow, standIns := [], harness := (true, "e800a76e7a4ae78992b3357b7156831b380a7cdf5ea6d41e53df4801c27e8aed"), looks := false }, kinds := [], alts := [], laidByText := true, laidKinds := [.data, .data], laidTests := true, laidLooks := .later }
def PatternAllUptoCardSaid : Prop := Claim7.holds Tryd.pinned (.plain (OpenSpec.upto patternAllSpec)) patternAllUptoCard

/-- THE SECOND FORM's CARD OF 'offcutlaw18.PatternRules'. -/
def patternRulesUptoCard : Claim7 := { stood := { row := patternRulesUptoRow, standIns := [], harness := (true, "e800a76e7a4ae78992b3357b7156831b380a7cdf5ea6d41e53df4801c27e8aed"), looks := false }, kinds := [], alts := [], laidByText := true, laidKinds := [.data, .data], laidTests := true, laidLooks := .later }
def PatternRulesUptoCardSaid : Prop := Claim7.holds Tryd.pinned (.plain (OpenSpec.upto patternRulesSpec)) patternRulesUptoCard

/-- THE SECOND FORM's CARD OF 'offcutlaw18.PatternParts'. -/
def patternPartsUptoCard : Claim7 := { stood := { row := patternPartsUptoRow, standIns := [], harness := (true, "e800a76e7a4ae78992b3357b7156831b380a7cdf5ea6d41e53df4801c27e8aed"), looks := false }, kinds := [], alts := [], laidByText := true, laidKinds := [.data, .data], laidTests := true, laidLooks := .later }
def PatternPartsUptoCardSaid : Prop := Claim7.holds Tryd.pinned (.plain (OpenSpec.upto patternPartsSpec)) patternPartsUptoCard

/-- THE SECOND FORM's CARD OF 'offcutlaw18.PatternOnes'. -/
def patternOnesUptoCard : Claim7 := { stood := { row := patternOnesUptoRow, standIns := [], harness := (true, "e800a76e7a4ae78992b3357b7156831b380a7cdf5ea6d41e53df4801c27e8aed"), looks := false }, kinds := [], alts := [], laidByText := true, laidKinds := [.data, .data], laidTests := true, laidLooks := .later }
def PatternOnesUptoCardSaid : Prop := Claim7.holds Tryd.pinned (.plain (OpenSpec.upto patternOnesSpec)) patternOnesUptoCard

/-- THE SECOND FORM's CARD OF 'offcutlaw19.PairsTogether'. -/
def pairsTogetherUptoCard : Claim7 := { stood := { row := pairsTogetherUptoRow, standIns := [], harness := (true, "e800a76e7a4ae78992b3357b7156831b380a7cdf5ea6d41e53df4801c27e8aed"), looks := false }, kinds := [], alts := [], laidByText := true, laidKinds := [.data, .data], laidTests := true, laidLooks := .later }
def PairsTogetherUptoCardSaid : Prop := Claim7.holds Tryd.pinned (.plain (OpenSpec.upto pairsTogetherSpec)) pairsTogetherUptoCard

/-- THE SECOND FORM's CARD OF 'offcutlaw18.PatternBest'. -/
def patternBestUptoCard : Claim7 := { stood := { row := patternBestUptoRow, standIns := [], harness := (true, "e800a76e7a4ae78992b3357b7156831b380a7cdf5ea6d41e53df4801c27e8aed"), looks := false }, kinds := [], alts := [], laidByText := true, laidKinds := [.data, .data], laidTests := true, laidLooks := .later }
def PatternBestUptoCardSaid : Prop := Claim7.holds Tryd.pinned (.plain (OpenSpec.upto patternBestSpec)) patternBestUptoCard
end Rows
end Go.Proofs.YtdhkdnmefeeclaaDoor
