/-
  DERIVED. GIVEN WITH THE SEED: THE CARDS: each row of YtadegppnocmcgaaGreatDoorRows.lean that lists a variable, with what it lists TIED to the program's text (the seventh form; the later family's looks); each row that meets fmt, with fmt's text TOLD by the authors' own Lean function (tested against real Go, not proved from fmt's source: count such statements apart). THE CARD IS WHAT COUNTS. Prove the row's statement (the work); the ties are given (YtadegppnocmcgaaGreatDoorTie.lean); close each card by the builder's one call (the guide's Derived/Test/ToyasCard.lean, 'card_holds'). Laid BY PROGRAM, IN A SANDBOX (cutbox-door.mjs). By AI agents, Wed Nov 11 2026. No macro, syntax, notation, axiom, sorry.
-/
import Derived.Test.YtadegppnocmcgaaGreatDoorRows
import GoSem.ClaimSeven
namespace Go.Proofs.YtadegppnocmcgaaGreatDoor
namespace Rows

/-- THE TIED CARD OF 'cashbooklaw15.EvalAny'. -/
def evalAnyCard : Claim7 := { stood := { row := evalAnyRow, standIns := [], harness := (true, "3ab7f190d40ce05f461bb41e3ab0af37e34b29a8334aa2d0c7af581e086ae3ba"), looks := false }, kinds := [], alts := [], laidByText := true, laidKinds := [.data, .data, .data, .data, .pinned], laidTests := true, laidLooks := .later }
def EvalAnyCardSaid : Prop := Claim7.holds Tryz.pinned (.plain (OpenSpec.ofChange evalAnySpec)) evalAnyCard

/-- THE TIED CARD OF 'cashbooklaw15.EvalMoves'. -/
def evalMovesCard : Claim7 := { stood := { row := evalMovesRow, standIns := [], harness := (true, "3ab7f190d40ce05f461bb41e3ab0af37e34b29a8334aa2d0c7af581e086ae3ba"), looks := false }, kinds := [], alts := [], laidByText := true, laidKinds := [.data, .data, .data, .data, .pinned], laidTests := true, laidLooks := .later }
def EvalMovesCardSaid : Prop := Claim7.holds Tryz.pinned (.plain (OpenSpec.ofChange evalMovesSpec)) evalMovesCard

/-- THE TIED CARD OF 'cashbooklaw15.EvalSums'. -/
def evalSumsCard : Claim7 := { stood := { row := evalSumsRow, standIns := [], harness := (true, "3ab7f190d40ce05f461bb41e3ab0af37e34b29a8334aa2d0c7af581e086ae3ba"), looks := false }, kinds := [], alts := [], laidByText := true, laidKinds := [.data, .data, .data, .data, .pinned], laidTests := true, laidLooks := .later }
def EvalSumsCardSaid : Prop := Claim7.holds Tryz.pinned (.plain (OpenSpec.ofChange evalSumsSpec)) evalSumsCard

/-- THE TIED CARD OF 'cashbooklaw15.EvalNames'. -/
def evalNamesCard : Claim7 := { stood := { row := evalNamesRow, standIns := [], harness := (true, "3ab7f190d40ce05f461bb41e3ab0af37e34b29a8334aa2d0c7af581e086ae3ba"), looks := false }, kinds := [], alts := [], laidByText := true, laidKinds := [.data, .data, .data, .data, .pinned], laidTests := true, laidLooks := .later }
def EvalNamesCardSaid : Prop := Claim7.holds Tryz.pinned (.plain (OpenSpec.ofChange evalNamesSpec)) evalNamesCard

/-- THE TIED CARD OF 'cashbooklaw15.EvalFaults'. -/
def evalFaultsCard : Claim7 := { stood := { row := evalFaultsRow, standIns := [], harness := (true, "3ab7f190d40ce05f461bb41e3ab0af37e34b29a8334aa2d0c7af581e086ae3ba"), looks := false }, kinds := [], alts := [], laidByText := true, laidKinds := [.data, .data, .data, .data, .pinned], laidTests := true, laidLooks := .later }
def EvalFaultsCardSaid : Prop := Claim7.holds Tryz.pinned (.plain (OpenSpec.ofChange evalFaultsSpec)) evalFaultsCard

/-- THE SECOND FORM's CARD OF 'cashbooklaw15.EvalAny'. -/
def evalAnyUptoCard : Claim7 := { stood := { row := evalAnyUptoRow, standIns := [], harness := (true, "3ab7f190d40ce05f461bb41e3ab0af37e34b29a8334aa2d0c7af581e086ae3ba"), looks := false }, kinds := [], alts := [], laidByText := true, laidKinds := [.data, .data, .data, .data, .pinned], laidTests := true, laidLooks := .later }
def EvalAnyUptoCardSaid : Prop := Claim7.holds Tryz.pinned (.plain (OpenSpec.upto evalAnySpec)) evalAnyUptoCard

/-- THE SECOND FORM's CARD OF 'cashbooklaw15.EvalMoves'. -/
def evalMovesUptoCard : Claim7 := { stood := { row := evalMovesUptoRow, standIns := [], harness := (true, "3ab7f190d40ce05f461bb41e3ab0af37e34b29a8334aa2d0c7af581e086ae3ba"), looks := false }, kinds := [], alts := [], laidByText := true, laidKinds := [.data, .data, .data, .data, .pinned], laidTests := true, laidLooks := .later }
def EvalMovesUptoCardSaid : Prop := Claim7.holds Tryz.pinned (.plain (OpenSpec.upto evalMovesSpec)) evalMovesUptoCard

/-- THE SECOND FORM's CARD OF 'cashbooklaw15.EvalSums'. -/
def evalSumsUptoCard : Claim7 := { stood := { row := evalSumsUptoRow, standIns := [], harness := (true, "3ab7f190d40ce05f461bb41e3ab0af37e34b29a8334aa2d0c7af581e086ae3ba"), looks := false }, kinds := [], alts := [], laidByText := true, laidKinds := [.data, .data, .data, .data, .pinned], laidTests := true, laidLooks := .later }
def EvalSumsUptoCardSaid : Prop := Claim7.holds Tryz.pinned (.plain (OpenSpec.upto evalSumsSpec)) evalSumsUptoCard

/-- THE SECOND FORM's CARD OF 'cashbooklaw15.EvalNames'. -/
def evalNamesUptoCard : Claim7 := { stood := { row := evalNamesUptoRow, standIns := [], harness := (true, "3ab7f190d40ce05f461bb41e3ab0af37e34b29a8334aa2d0c7af581e086ae3ba"), looks := false }, kinds := [], alts := [], laidByText := true, laidKinds := [.data, .data, .data, .data, .pinned], laidTests := true, laidLooks := .later }
def EvalNamesUptoCardSaid : Prop := Claim7.holds Tryz.pinned (.plain (OpenSpec.upto evalNamesSpec)) evalNamesUptoCard

/-- THE SECOND FORM's CARD OF 'cashbooklaw15.EvalFaults'. -/
def evalFaultsUptoCard : Claim7 := { stood := { row := evalFaultsUptoRow, standIns := [], harness := (true, "3ab7f190d40ce05f461bb41e3ab0af37e34b29a8334aa2d0c7af581e086ae3ba"), looks := false }, kinds := [], alts := [], laidByText := true, laidKinds := [.data, .data, .data, .data, .pinned], laidTests := true, laidLooks := .later }
def EvalFaultsUptoCardSaid : Prop := Claim7.holds Tryz.pinned (.plain (OpenSpec.upto evalFaultsSpec)) evalFaultsUptoCard
end Rows
end Go.Proofs.YtadegppnocmcgaaGreatDoor
