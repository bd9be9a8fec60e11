/-
  DERIVED. GIVEN WITH THE SEED: THE CARDS: each row of YtllmjcjbpnhciaaGreatDoorRows.lean that lists a variable, with what it lists TIED to the program's text (the seventh form; the later family's looks); each row that meets fmt, with fmt's text TOLD by the authors' own Lean function (tested against real Go, not proved from fmt's source: count such statements apart). THE CARD IS WHAT COUNTS. Prove the row's statement (the work); the ties are given (YtllmjcjbpnhciaaGreatDoorTie.lean); close each card by the builder's one call (the guide's Derived/Test/ToyasCard.lean, 'card_holds'). Laid BY PROGRAM, IN A SANDBOX (cutbox-door.mjs). By AI agents, Wed Nov 11 2026. No macro, syntax, notation, axiom, sorry.
-/
import Derived.Test.YtllmjcjbpnhciaaGreatDoorRows
import GoSem.ClaimSeven
namespace Go.Proofs.YtllmjcjbpnhciaaGreatDoor
namespace Rows

/-- THE TIED CARD OF 'deadboltlaw7.NamesChecks'. -/
def namesChecksCard : Claim7 := { stood := { row := namesChecksRow, standIns := [], harness := (true, "89d9e252854c4f3abbc2daeeb4dacb6c23bb2ace936a2ffe3ff2b1348b975dc7"), looks := true }, kinds := [], alts := [], laidByText := true, laidKinds := [.handle, .listed, .data], laidTests := true, laidLooks := .later }
def NamesChecksCardSaid : Prop := Claim7.holds Tryz.pinned (.plain (OpenSpec.ofChange namesChecksSpec)) namesChecksCard

/-- THE TIED CARD OF 'deadboltlaw7.NamesJoins'. -/
def namesJoinsCard : Claim7 := { stood := { row := namesJoinsRow, standIns := [], harness := (true, "89d9e252854c4f3abbc2daeeb4dacb6c23bb2ace936a2ffe3ff2b1348b975dc7"), looks := true }, kinds := [], alts := [], laidByText := true, laidKinds := [.handle, .listed, .data], laidTests := true, laidLooks := .later }
def NamesJoinsCardSaid : Prop := Claim7.holds Tryz.pinned (.plain (OpenSpec.ofChange namesJoinsSpec)) namesJoinsCard

/-- THE TIED CARD OF 'deadboltlaw7.NamesMany'. -/
def namesManyCard : Claim7 := { stood := { row := namesManyRow, standIns := [], harness := (true, "89d9e252854c4f3abbc2daeeb4dacb6c23bb2ace936a2ffe3ff2b1348b975dc7"), looks := true }, kinds := [], alts := [], laidByText := true, laidKinds := [.handle, .listed, .data], laidTests := true, laidLooks := .later }
def NamesManyCardSaid : Prop := Claim7.holds Tryz.pinned (.plain (OpenSpec.ofChange namesManySpec)) namesManyCard

/-- THE TIED CARD OF 'deadboltlaw7.NamesKnown'. -/
def namesKnownCard : Claim7 := { stood := { row := namesKnownRow, standIns := [], harness := (true, "89d9e252854c4f3abbc2daeeb4dacb6c23bb2ace936a2ffe3ff2b1348b975dc7"), looks := true }, kinds := [], alts := [], laidByText := true, laidKinds := [.handle, .listed, .data], laidTests := true, laidLooks := .later }
def NamesKnownCardSaid : Prop := Claim7.holds Tryz.pinned (.plain (OpenSpec.ofChange namesKnownSpec)) namesKnownCard

/-- THE TIED CARD OF 'deadboltlaw7.NamesOrder'. -/
def namesOrderCard : Claim7 := { stood := { row := namesOrderRow, standIns := [], harness := (true, "89d9e252854c4f3abbc2daeeb4dacb6c23bb2ace936a2ffe3ff2b1348b975dc7"), looks := true }, kinds := [], alts := [], laidByText := true, laidKinds := [.handle, .listed, .data], laidTests := true, laidLooks := .later }
def NamesOrderCardSaid : Prop := Claim7.holds Tryz.pinned (.plain (OpenSpec.ofChange namesOrderSpec)) namesOrderCard

/-- THE TIED CARD OF 'deadboltlaw7.NamesKinds'. -/
def namesKindsCard : Claim7 := { stood := { row := namesKindsRow, standIns := [], harness := (true, "89d9e252854c4f3abbc2daeeb4dacb6c23bb2ace936a2ffe3ff2b1348b975dc7"), looks := true }, kinds := [], alts := [], laidByText := true, laidKinds := [.handle, .listed, .data], laidTests := true, laidLooks := .later }
def NamesKindsCardSaid : Prop := Claim7.holds Tryz.pinned (.plain (OpenSpec.ofChange namesKindsSpec)) namesKindsCard

/-- THE SECOND FORM's CARD OF 'deadboltlaw7.NamesChecks'. -/
def namesChecksUptoCard : Claim7 := { stood := { row := namesChecksUptoRow, standIns := [], harness := (true, "89d9e252854c4f3abbc2daeeb4dacb6c23bb2ace936a2ffe3ff2b1348b975dc7"), looks := true }, kinds := [], alts := [], laidByText := true, laidKinds := [.handle, .listed, .data], laidTests := true, laidLooks := .later }
def NamesChecksUptoCardSaid : Prop := Claim7.holds Tryz.pinned (.plain (OpenSpec.upto namesChecksSpec)) namesChecksUptoCard

/-- THE SECOND FORM's CARD OF 'deadboltlaw7.NamesJoins'. -/
def namesJoinsUptoCard : Claim7 := { stood := { row := namesJoinsUptoRow, standIns := [], harness := (true, "89d9e252854c4f3abbc2daeeb4dacb6c23bb2ace936a2ffe3ff2b1348b975dc7"), looks := true }, kinds := [], alts := [], laidByText := true, laidKinds := [.handle, .listed, .data], laidTests := true, laidLooks := .later }
def NamesJoinsUptoCardSaid : Prop := Claim7.holds Tryz.pinned (.plain (OpenSpec.upto namesJoinsSpec)) namesJoinsUptoCard

/-- THE SECOND FORM's CARD OF 'deadboltlaw7.NamesMany'. -/
def namesManyUptoCard : Claim7 := { stood := { row := namesManyUptoRow, standIns := [], harness := (true, "89d9e252854c4f3abbc2daeeb4dacb6c23bb2ace936a2ffe3ff2b1348b975dc7"), looks := true }, kinds := [], alts := [], laidByText := true, laidKinds := [.handle, .listed, .data], laidTests := true, laidLooks := .later }
def NamesManyUptoCardSaid : Prop := Claim7.holds Tryz.pinned (.plain (OpenSpec.upto namesManySpec)) namesManyUptoCard

/-- THE SECOND FORM's CARD OF 'deadboltlaw7.NamesKnown'. -/
def namesKnownUptoCard : Claim7 := { stood := { row := namesKnownUptoRow, standIns := [], harness := (true, "89d9e252854c4f3abbc2daeeb4dacb6c23bb2ace936a2ffe3ff2b1348b975dc7"), looks := true }, kinds := [], alts := [], laidByText := true, laidKinds := [.handle, .listed, .data], laidTests := true, laidLooks := .later }
def NamesKnownUptoCardSaid : Prop := Claim7.holds Tryz.pinned (.plain (OpenSpec.upto namesKnownSpec)) namesKnownUptoCard

/-- THE SECOND FORM's CARD OF 'deadboltlaw7.NamesOrder'. -/
def namesOrderUptoCard : Claim7 := { stood := { row := namesOrderUptoRow, standIns := [], harness := (true, "89d9e252854c4f3abbc2daeeb4dacb6c23bb2ace936a2ffe3ff2b1348b975dc7"), looks := true }, kinds := [], alts := [], laidByText := true, laidKinds := [.handle, .listed, .data], laidTests := true, laidLooks := .later }
def NamesOrderUptoCardSaid : Prop := Claim7.holds Tryz.pinned (.plain (OpenSpec.upto namesOrderSpec)) namesOrderUptoCard

/-- THE SECOND FORM's CARD OF 'deadboltlaw7.NamesKinds'. -/
def namesKindsUptoCard : Claim7 := { stood := { row := namesKindsUptoRow, standIns := [], harness := (true, "89d9e252854c4f3abbc2daeeb4dacb6c23bb2ace936a2ffe3ff2b1348b975dc7"), looks := true }, kinds := [], alts := [], laidByText := true, laidKinds := [.handle, .listed, .data], laidTests := true, laidLooks := .later }
def NamesKindsUptoCardSaid : Prop := Claim7.holds Tryz.pinned (.plain (OpenSpec.upto namesKindsSpec)) namesKindsUptoCard
end Rows
end Go.Proofs.YtllmjcjbpnhciaaGreatDoor
