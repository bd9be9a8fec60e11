/-
  DERIVED. GIVEN WITH THE SEED: THE CARDS: each row of YtcabcedlnikbaaaDoorRows.lean that lists a variable, with what it lists TIED to the program's text (the seventh form; the later family's looks); each row that meets fmt, with fmt's text TOLD by the authors' own Lean function (tested against real Go, not proved from fmt's source: count such statements apart). THE CARD IS WHAT COUNTS. Prove the row's statement (the work); the ties are given (YtcabcedlnikbaaaDoorTie.lean); close each card by the builder's one call (the guide's Derived/Test/ToyasCard.lean, 'card_holds'). Laid BY PROGRAM, IN A SANDBOX (cutbox-door.mjs). By AI agents, Wed Nov 11 2026. No macro, syntax, notation, axiom, sorry.
-/
import Derived.Test.YtcabcedlnikbaaaDoorRows
import GoSem.ClaimSeven
namespace Go.Proofs.YtcabcedlnikbaaaDoor
namespace Rows

/-- THE TIED CARD OF 'deadboltlaw5.LexTokens'. -/
def lexTokensCard : Claim7 := { stood := { row := lexTokensRow, standIns := [], harness := (true, "834964a477f818eb7ca203e93c39a08c4e11f689fe6bded025fd316fe802b6e2"), looks := false }, kinds := [], alts := [], laidByText := true, laidKinds := [.listed, .data], laidTests := true, laidLooks := .later }
def LexTokensCardSaid : Prop := Claim7.holds Tryd.pinned (.plain (OpenSpec.ofChange lexTokensSpec)) lexTokensCard

/-- THE TIED CARD OF 'deadboltlaw5.LexNames'. -/
def lexNamesCard : Claim7 := { stood := { row := lexNamesRow, standIns := [], harness := (true, "834964a477f818eb7ca203e93c39a08c4e11f689fe6bded025fd316fe802b6e2"), looks := false }, kinds := [], alts := [], laidByText := true, laidKinds := [.listed, .data], laidTests := true, laidLooks := .later }
def LexNamesCardSaid : Prop := Claim7.holds Tryd.pinned (.plain (OpenSpec.ofChange lexNamesSpec)) lexNamesCard

/-- THE TIED CARD OF 'deadboltlaw5.LexAgain'. -/
def lexAgainCard : Claim7 := { stood := { row := lexAgainRow, standIns := [], harness := (true, "834964a477f818eb7ca203e93c39a08c4e11f689fe6bded025fd316fe802b6e2"), looks := false }, kinds := [], alts := [], laidByText := true, laidKinds := [.listed, .data], laidTests := true, laidLooks := .later }
def LexAgainCardSaid : Prop := Claim7.holds Tryd.pinned (.plain (OpenSpec.ofChange lexAgainSpec)) lexAgainCard

/-- THE TIED CARD OF 'deadboltlaw5.LexKnown'. -/
def lexKnownCard : Claim7 := { stood := { row := lexKnownRow, standIns := [], harness := (true, "834964a477f818eb7ca203e93c39a08c4e11f689fe6bded025fd316fe802b6e2"), looks := false }, kinds := [], alts := [], laidByText := true, laidKinds := [.listed, .data], laidTests := true, laidLooks := .later }
def LexKnownCardSaid : Prop := Claim7.holds Tryd.pinned (.plain (OpenSpec.ofChange lexKnownSpec)) lexKnownCard

/-- THE TIED CARD OF 'deadboltlaw5.LexBlanks'. -/
def lexBlanksCard : Claim7 := { stood := { row := lexBlanksRow, standIns := [], harness := (true, "834964a477f818eb7ca203e93c39a08c4e11f689fe6bded025fd316fe802b6e2"), looks := false }, kinds := [], alts := [], laidByText := true, laidKinds := [.listed, .data], laidTests := true, laidLooks := .later }
def LexBlanksCardSaid : Prop := Claim7.holds Tryd.pinned (.plain (OpenSpec.ofChange lexBlanksSpec)) lexBlanksCard

/-- THE TIED CARD OF 'deadboltlaw5.LexFirst'. -/
def lexFirstCard : Claim7 := { stood := { row := lexFirstRow, standIns := [], harness := (true, "834964a477f818eb7ca203e93c39a08c4e11f689fe6bded025fd316fe802b6e2"), looks := false }, kinds := [], alts := [], laidByText := true, laidKinds := [.listed, .data], laidTests := true, laidLooks := .later }
def LexFirstCardSaid : Prop := Claim7.holds Tryd.pinned (.plain (OpenSpec.ofChange lexFirstSpec)) lexFirstCard

/-- THE SECOND FORM's CARD OF 'deadboltlaw5.LexTokens'. -/
def lexTokensUptoCard : Claim7 := { stood := { row := lexTokensUptoRow, standIns := [], harness := (true, "834964a477f818eb7ca203e93c39a08c4e11f689fe6bded025fd316fe802b6e2"), looks := false }, kinds := [], alts := [], laidByText := true, laidKinds := [.listed, .data], laidTests := true, laidLooks := .later }
def LexTokensUptoCardSaid : Prop := Claim7.holds Tryd.pinned (.plain (OpenSpec.upto lexTokensSpec)) lexTokensUptoCard

/-- THE SECOND FORM's CARD OF 'deadboltlaw5.LexNames'. -/
def lexNamesUptoCard : Claim7 := { stood := { row := lexNamesUptoRow, standIns := [], harness := (true, "834964a477f818eb7ca203e93c39a08c4e11f689fe6bded025fd316fe802b6e2"), looks := false }, kinds := [], alts := [], laidByText := true, laidKinds := [.listed, .data], laidTests := true, laidLooks := .later }
def LexNamesUptoCardSaid : Prop := Claim7.holds Tryd.pinned (.plain (OpenSpec.upto lexNamesSpec)) lexNamesUptoCard

/-- THE SECOND FORM's CARD OF 'deadboltlaw5.LexAgain'. -/
def lexAgainUptoCard : Claim7 := { stood := { row := lexAgainUptoRow, standIns := [], harness := (true, "834964a477f818eb7ca203e93c39a08c4e11f689fe6bded025fd316fe802b6e2"), looks := false }, kinds := [], alts := [], laidByText := true, laidKinds := [.listed, .data], laidTests := true, laidLooks := .later }
def LexAgainUptoCardSaid : Prop := Claim7.holds Tryd.pinned (.plain (OpenSpec.upto lexAgainSpec)) lexAgainUptoCard

/-- THE SECOND FORM's CARD OF 'deadboltlaw5.LexKnown'. -/
def lexKnownUptoCard : Claim7 := { stood := { row := lexKnownUptoRow, standIns := [], harness := (true, "834964a477f818eb7ca203e93c39a08c4e11f689fe6bded025fd316fe802b6e2"), looks := false }, kinds := [], alts := [], laidByText := true, laidKinds := [.listed, .data], laidTests := true, laidLooks := .later }
def LexKnownUptoCardSaid : Prop := Claim7.holds Tryd.pinned (.plain (OpenSpec.upto lexKnownSpec)) lexKnownUptoCard

/-- THE SECOND FORM's CARD OF 'deadboltlaw5.LexBlanks'. -/
def lexBlanksUptoCard : Claim7 := { stood := { row := lexBlanksUptoRow, standIns := [], harness := (true, "834964a477f818eb7ca203e93c39a08c4e11f689fe6bded025fd316fe802b6e2"), looks := false }, kinds := [], alts := [], laidByText := true, laidKinds := [.listed, .data], laidTests := true, laidLooks := .later }
def LexBlanksUptoCardSaid : Prop := Claim7.holds Tryd.pinned (.plain (OpenSpec.upto lexBlanksSpec)) lexBlanksUptoCard

/-- THE SECOND FORM's CARD OF 'deadboltlaw5.LexFirst'. -/
def lexFirstUptoCard : Claim7 := { stood := { row := lexFirstUptoRow, standIns := [], harness := (true, "834964a477f818eb7ca203e93c39a08c4e11f689fe6bded025fd316fe802b6e2"), looks := false }, kinds := [], alts := [], laidByText := true, laidKinds := [.listed, .data], laidTests := true, laidLooks := .later }
def LexFirstUptoCardSaid : Prop := Claim7.holds Tryd.pinned (.plain (OpenSpec.upto lexFirstSpec)) lexFirstUptoCard
end Rows
end Go.Proofs.YtcabcedlnikbaaaDoor
