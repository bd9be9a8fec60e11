/-
  DERIVED. GIVEN WITH THE SEED: THE CARDS: each row of YtkmafndljelopaaDoorRows.lean that lists a variable, with what it lists TIED to the program's text (the seventh form; the later family's looks); each row that meets fmt, with fmt's text TOLD by the authors' own Lean function (tested against real Go, not proved from fmt's source: count such statements apart). THE CARD IS WHAT COUNTS. Prove the row's statement (the work); the ties are given (YtkmafndljelopaaDoorTie.lean); close each card by the builder's one call (the guide's Derived/Test/ToyasCard.lean, 'card_holds'). Laid BY PROGRAM, IN A SANDBOX (cutbox-door.mjs). By AI agents, Wed Nov 11 2026. No macro, syntax, notation, axiom, sorry.
-/
import Derived.Test.YtkmafndljelopaaDoorRows
import GoSem.ClaimSeven
namespace Go.Proofs.YtkmafndljelopaaDoor
namespace Rows

/-- THE TIED CARD OF 'deadboltlaw6.ParseReads'. -/
def parseReadsCard : Claim7 := { stood := { row := parseReadsRow, standIns := [], harness := (true, "7946a8b5dfb17ccce58126fe4c09abaceaf06ec3b6e3bd19d484bd1a34f1deca"), looks := true }, kinds := [], alts := [], laidByText := true, laidKinds := [.listed, .data], laidTests := true, laidLooks := .later }
def ParseReadsCardSaid : Prop := Claim7.holds Tryd.pinned (.plain (OpenSpec.ofChange parseReadsSpec)) parseReadsCard

/-- THE TIED CARD OF 'deadboltlaw6.ParseDeep'. -/
def parseDeepCard : Claim7 := { stood := { row := parseDeepRow, standIns := [], harness := (true, "7946a8b5dfb17ccce58126fe4c09abaceaf06ec3b6e3bd19d484bd1a34f1deca"), looks := true }, kinds := [], alts := [], laidByText := true, laidKinds := [.listed, .data], laidTests := true, laidLooks := .later }
def ParseDeepCardSaid : Prop := Claim7.holds Tryd.pinned (.plain (OpenSpec.ofChange parseDeepSpec)) parseDeepCard

/-- THE TIED CARD OF 'deadboltlaw6.ParsePlaces'. -/
def parsePlacesCard : Claim7 := { stood := { row := parsePlacesRow, standIns := [], harness := (true, "7946a8b5dfb17ccce58126fe4c09abaceaf06ec3b6e3bd19d484bd1a34f1deca"), looks := true }, kinds := [], alts := [], laidByText := true, laidKinds := [.listed, .data], laidTests := true, laidLooks := .later }
def ParsePlacesCardSaid : Prop := Claim7.holds Tryd.pinned (.plain (OpenSpec.ofChange parsePlacesSpec)) parsePlacesCard

/-- THE TIED CARD OF 'deadboltlaw6.ParseBack'. -/
def parseBackCard : Claim7 := { stood := { row := parseBackRow, standIns := [], harness := (true, "7946a8b5dfb17ccce58126fe4c09abaceaf06ec3b6e3bd19d484bd1a34f1deca"), looks := true }, kinds := [], alts := [], laidByText := true, laidKinds := [.listed, .data], laidTests := true, laidLooks := .later }
def ParseBackCardSaid : Prop := Claim7.holds Tryd.pinned (.plain (OpenSpec.ofChange parseBackSpec)) parseBackCard

/-- THE TIED CARD OF 'deadboltlaw6.ParseSame'. -/
def parseSameCard : Claim7 := { stood := { row := parseSameRow, standIns := [], harness := (true, "7946a8b5dfb17ccce58126fe4c09abaceaf06ec3b6e3bd19d484bd1a34f1deca"), looks := true }, kinds := [], alts := [], laidByText := true, laidKinds := [.listed, .data], laidTests := true, laidLooks := .later }
def ParseSameCardSaid : Prop := Claim7.holds Tryd.pinned (.plain (OpenSpec.ofChange parseSameSpec)) parseSameCard

/-- THE TIED CARD OF 'deadboltlaw6.ParseBlanks'. -/
def parseBlanksCard : Claim7 := { stood := { row := parseBlanksRow, standIns := [], harness := (true, "7946a8b5dfb17ccce58126fe4c09abaceaf06ec3b6e3bd19d484bd1a34f1deca"), looks := true }, kinds := [], alts := [], laidByText := true, laidKinds := [.listed, .data], laidTests := true, laidLooks := .later }
def ParseBlanksCardSaid : Prop := Claim7.holds Tryd.pinned (.plain (OpenSpec.ofChange parseBlanksSpec)) parseBlanksCard

/-- THE TIED CARD OF 'deadboltlaw6.ParseJoin'. -/
def parseJoinCard : Claim7 := { stood := { row := parseJoinRow, standIns := [], harness := (true, "7946a8b5dfb17ccce58126fe4c09abaceaf06ec3b6e3bd19d484bd1a34f1deca"), looks := true }, kinds := [], alts := [], laidByText := true, laidKinds := [.listed, .data], laidTests := true, laidLooks := .later }
def ParseJoinCardSaid : Prop := Claim7.holds Tryd.pinned (.plain (OpenSpec.ofChange parseJoinSpec)) parseJoinCard

/-- THE TIED CARD OF 'deadboltlaw6.ParseKnown'. -/
def parseKnownCard : Claim7 := { stood := { row := parseKnownRow, standIns := [], harness := (true, "7946a8b5dfb17ccce58126fe4c09abaceaf06ec3b6e3bd19d484bd1a34f1deca"), looks := true }, kinds := [], alts := [], laidByText := true, laidKinds := [.listed, .data], laidTests := true, laidLooks := .later }
def ParseKnownCardSaid : Prop := Claim7.holds Tryd.pinned (.plain (OpenSpec.ofChange parseKnownSpec)) parseKnownCard

/-- THE SECOND FORM's CARD OF 'deadboltlaw6.ParseReads'. -/
def parseReadsUptoCard : Claim7 := { stood := { row := parseReadsUptoRow, standIns := [], harness := (true, "7946a8b5dfb17ccce58126fe4c09abaceaf06ec3b6e3bd19d484bd1a34f1deca"), looks := true }, kinds := [], alts := [], laidByText := true, laidKinds := [.listed, .data], laidTests := true, laidLooks := .later }
def ParseReadsUptoCardSaid : Prop := Claim7.holds Tryd.pinned (.plain (OpenSpec.upto parseReadsSpec)) parseReadsUptoCard

/-- THE SECOND FORM's CARD OF 'deadboltlaw6.ParseDeep'. -/
def parseDeepUptoCard : Claim7 := { stood := { row := parseDeepUptoRow, standIns := [], harness := (true, "7946a8b5dfb17ccce58126fe4c09abaceaf06ec3b6e3bd19d484bd1a34f1deca"), looks := true }, kinds := [], alts := [], laidByText := true, laidKinds := [.listed, .data], laidTests := true, laidLooks := .later }
def ParseDeepUptoCardSaid : Prop := Claim7.holds Tryd.pinned (.plain (OpenSpec.upto parseDeepSpec)) parseDeepUptoCard

/-- THE SECOND FORM's CARD OF 'deadboltlaw6.ParsePlaces'. -/
def parsePlacesUptoCard : Claim7 := { stood := { row := parsePlacesUptoRow, standIns := [], harness := (true, "7946a8b5dfb17ccce58126fe4c09abaceaf06ec3b6e3bd19d484bd1a34f1deca"), looks := true }, kinds := [], alts := [], laidByText := true, laidKinds := [.listed, .data], laidTests := true, laidLooks := .later }
def ParsePlacesUptoCardSaid : Prop := Claim7.holds Tryd.pinned (.plain (OpenSpec.upto parsePlacesSpec)) parsePlacesUptoCard

/-- THE SECOND FORM's CARD OF 'deadboltlaw6.ParseBack'. -/
def parseBackUptoCard : Claim7 := { stood := { row := parseBackUptoRow, standIns := [], harness := (true, "7946a8b5dfb17ccce58126fe4c09abaceaf06ec3b6e3bd19d484bd1a34f1deca"), looks := true }, kinds := [], alts := [], laidByText := true, laidKinds := [.listed, .data], laidTests := true, laidLooks := .later }
def ParseBackUptoCardSaid : Prop := Claim7.holds Tryd.pinned (.plain (OpenSpec.upto parseBackSpec)) parseBackUptoCard

/-- THE SECOND FORM's CARD OF 'deadboltlaw6.ParseSame'. -/
def parseSameUptoCard : Claim7 := { stood := { row := parseSameUptoRow, standIns := [], harness := (true, "7946a8b5dfb17ccce58126fe4c09abaceaf06ec3b6e3bd19d484bd1a34f1deca"), looks := true }, kinds := [], alts := [], laidByText := true, laidKinds := [.listed, .data], laidTests := true, laidLooks := .later }
def ParseSameUptoCardSaid : Prop := Claim7.holds Tryd.pinned (.plain (OpenSpec.upto parseSameSpec)) parseSameUptoCard

/-- THE SECOND FORM's CARD OF 'deadboltlaw6.ParseBlanks'. -/
def parseBlanksUptoCard : Claim7 := { stood := { row := parseBlanksUptoRow, standIns := [], harness := (true, "7946a8b5dfb17ccce58126fe4c09abaceaf06ec3b6e3bd19d484bd1a34f1deca"), looks := true }, kinds := [], alts := [], laidByText := true, laidKinds := [.listed, .data], laidTests := true, laidLooks := .later }
def ParseBlanksUptoCardSaid : Prop := Claim7.holds Tryd.pinned (.plain (OpenSpec.upto parseBlanksSpec)) parseBlanksUptoCard

/-- THE SECOND FORM's CARD OF 'deadboltlaw6.ParseJoin'. -/
def parseJoinUptoCard : Claim7 := { stood := { row := parseJoinUptoRow, standIns := [], harness := (true, "7946a8b5dfb17ccce58126fe4c09abaceaf06ec3b6e3bd19d484bd1a34f1deca"), looks := true }, kinds := [], alts := [], laidByText := true, laidKinds := [.listed, .data], laidTests := true, laidLooks := .later }
def ParseJoinUptoCardSaid : Prop := Claim7.holds Tryd.pinned (.plain (OpenSpec.upto parseJoinSpec)) parseJoinUptoCard

/-- THE SECOND FORM's CARD OF 'deadboltlaw6.ParseKnown'. -/
def parseKnownUptoCard : Claim7 := { stood := { row := parseKnownUptoRow, standIns := [], harness := (true, "7946a8b5dfb17ccce58126fe4c09abaceaf06ec3b6e3bd19d484bd1a34f1deca"), looks := true }, kinds := [], alts := [], laidByText := true, laidKinds := [.listed, .data], laidTests := true, laidLooks := .later }
def ParseKnownUptoCardSaid : Prop := Claim7.holds Tryd.pinned (.plain (OpenSpec.upto parseKnownSpec)) parseKnownUptoCard
end Rows
end Go.Proofs.YtkmafndljelopaaDoor
