/-
  DERIVED. GIVEN WITH THE SEED: THE CARDS: each row of YtpnnojigdhkjaaaDoorRows.lean that lists a variable, with what it lists TIED to the program's text (the seventh form; the later family's looks); each row that meets fmt, with fmt's text TOLD by the authors' own Lean function (tested against real Go, not proved from fmt's source: count such statements apart). THE CARD IS WHAT COUNTS. Prove the row's statement (the work); the ties are given (YtpnnojigdhkjaaaDoorTie.lean); close each card by the builder's one call (the guide's Derived/Test/ToyasCard.lean, 'card_holds'). Laid BY PROGRAM, IN A SANDBOX (cutbox-door.mjs). By AI agents, Wed Nov 11 2026. No macro, syntax, notation, axiom, sorry.
-/
import Derived.Test.YtpnnojigdhkjaaaDoorRows
import GoSem.ClaimSeven
namespace Go.Proofs.YtpnnojigdhkjaaaDoor
namespace Rows

/-- THE TIED CARD OF 'deadboltlaw15.ProtoBack'. -/
def protoBackCard : Claim7 := { stood := { row := protoBackRow, standIns := [], harness := (true, "019c3e54ab9da08cd0fda627010f0936464c002b44da02ebe932302a9fde3f34"), looks := true }, kinds := [], alts := [], laidByText := true, laidKinds := [.listed, .data], laidTests := true, laidLooks := .later }
def ProtoBackCardSaid : Prop := Claim7.holds Tryd.pinned (.plain (OpenSpec.ofChange protoBackSpec)) protoBackCard

/-- THE TIED CARD OF 'deadboltlaw15.ProtoReads'. -/
def protoReadsCard : Claim7 := { stood := { row := protoReadsRow, standIns := [], harness := (true, "019c3e54ab9da08cd0fda627010f0936464c002b44da02ebe932302a9fde3f34"), looks := true }, kinds := [], alts := [], laidByText := true, laidKinds := [.listed, .data], laidTests := true, laidLooks := .later }
def ProtoReadsCardSaid : Prop := Claim7.holds Tryd.pinned (.plain (OpenSpec.ofChange protoReadsSpec)) protoReadsCard

/-- THE TIED CARD OF 'deadboltlaw15.ProtoBounds'. -/
def protoBoundsCard : Claim7 := { stood := { row := protoBoundsRow, standIns := [], harness := (true, "019c3e54ab9da08cd0fda627010f0936464c002b44da02ebe932302a9fde3f34"), looks := true }, kinds := [], alts := [], laidByText := true, laidKinds := [.listed, .data], laidTests := true, laidLooks := .later }
def ProtoBoundsCardSaid : Prop := Claim7.holds Tryd.pinned (.plain (OpenSpec.ofChange protoBoundsSpec)) protoBoundsCard

/-- THE TIED CARD OF 'deadboltlaw15.ProtoKnown'. -/
def protoKnownCard : Claim7 := { stood := { row := protoKnownRow, standIns := [], harness := (true, "019c3e54ab9da08cd0fda627010f0936464c002b44da02ebe932302a9fde3f34"), looks := true }, kinds := [], alts := [], laidByText := true, laidKinds := [.listed, .data], laidTests := true, laidLooks := .later }
def ProtoKnownCardSaid : Prop := Claim7.holds Tryd.pinned (.plain (OpenSpec.ofChange protoKnownSpec)) protoKnownCard

/-- THE TIED CARD OF 'deadboltlaw15.ProtoTurn'. -/
def protoTurnCard : Claim7 := { stood := { row := protoTurnRow, standIns := [], harness := (true, "019c3e54ab9da08cd0fda627010f0936464c002b44da02ebe932302a9fde3f34"), looks := true }, kinds := [], alts := [], laidByText := true, laidKinds := [.listed, .data], laidTests := true, laidLooks := .later }
def ProtoTurnCardSaid : Prop := Claim7.holds Tryd.pinned (.plain (OpenSpec.ofChange protoTurnSpec)) protoTurnCard

/-- THE TIED CARD OF 'deadboltlaw15.ProtoOwn'. -/
def protoOwnCard : Claim7 := { stood := { row := protoOwnRow, standIns := [], harness := (true, "019c3e54ab9da08cd0fda627010f0936464c002b44da02ebe932302a9fde3f34"), looks := true }, kinds := [], alts := [], laidByText := true, laidKinds := [.listed, .data], laidTests := true, laidLooks := .later }
def ProtoOwnCardSaid : Prop := Claim7.holds Tryd.pinned (.plain (OpenSpec.ofChange protoOwnSpec)) protoOwnCard

/-- THE SECOND FORM's CARD OF 'deadboltlaw15.ProtoBack'. -/
def protoBackUptoCard : Claim7 := { stood := { row := protoBackUptoRow, standIns := [], harness := (true, "019c3e54ab9da08cd0fda627010f0936464c002b44da02ebe932302a9fde3f34"), looks := true }, kinds := [], alts := [], laidByText := true, laidKinds := [.listed, .data], laidTests := true, laidLooks := .later }
def ProtoBackUptoCardSaid : Prop := Claim7.holds Tryd.pinned (.plain (OpenSpec.upto protoBackSpec)) protoBackUptoCard

/-- THE SECOND FORM's CARD OF 'deadboltlaw15.ProtoReads'. -/
def protoReadsUptoCard : Claim7 := { stood := { row := protoReadsUptoRow, standIns := [], harness := (true, "019c3e54ab9da08cd0fda627010f0936464c002b44da02ebe932302a9fde3f34"), looks := true }, kinds := [], alts := [], laidByText := true, laidKinds := [.listed, .data], laidTests := true, laidLooks := .later }
def ProtoReadsUptoCardSaid : Prop := Claim7.holds Tryd.pinned (.plain (OpenSpec.upto protoReadsSpec)) protoReadsUptoCard

/-- THE SECOND FORM's CARD OF 'deadboltlaw15.ProtoBounds'. -/
def protoBoundsUptoCard : Claim7 := { stood := { row := protoBoundsUptoRow, standIns := [], harness := (true, "019c3e54ab9da08cd0fda627010f0936464c002b44da02ebe932302a9fde3f34"), looks := true }, kinds := [], alts := [], laidByText := true, laidKinds := [.listed, .data], laidTests := true, laidLooks := .later }
def ProtoBoundsUptoCardSaid : Prop := Claim7.holds Tryd.pinned (.plain (OpenSpec.upto protoBoundsSpec)) protoBoundsUptoCard

/-- THE SECOND FORM's CARD OF 'deadboltlaw15.ProtoKnown'. -/
def protoKnownUptoCard : Claim7 := { stood := { row := protoKnownUptoRow, standIns := [], harness := (true, "019c3e54ab9da08cd0fda627010f0936464c002b44da02ebe932302a9fde3f34"), looks := true }, kinds := [], alts := [], laidByText := true, laidKinds := [.listed, .data], laidTests := true, laidLooks := .later }
def ProtoKnownUptoCardSaid : Prop := Claim7.holds Tryd.pinned (.plain (OpenSpec.upto protoKnownSpec)) protoKnownUptoCard

/-- THE SECOND FORM's CARD OF 'deadboltlaw15.ProtoTurn'. -/
def protoTurnUptoCard : Claim7 := { stood := { row := protoTurnUptoRow, standIns := [], harness := (true, "019c3e54ab9da08cd0fda627010f0936464c002b44da02ebe932302a9fde3f34"), looks := true }, kinds := [], alts := [], laidByText := true, laidKinds := [.listed, .data], laidTests := true, laidLooks := .later }
def ProtoTurnUptoCardSaid : Prop := Claim7.holds Tryd.pinned (.plain (OpenSpec.upto protoTurnSpec)) protoTurnUptoCard

/-- THE SECOND FORM's CARD OF 'deadboltlaw15.ProtoOwn'. -/
def protoOwnUptoCard : Claim7 := { stood := { row := protoOwnUptoRow, standIns := [], harness := (true, "019c3e54ab9da08cd0fda627010f0936464c002b44da02ebe932302a9fde3f34"), looks := true }, kinds := [], alts := [], laidByText := true, laidKinds := [.listed, .data], laidTests := true, laidLooks := .later }
def ProtoOwnUptoCardSaid : Prop := Claim7.holds Tryd.pinned (.plain (OpenSpec.upto protoOwnSpec)) protoOwnUptoCard
end Rows
end Go.Proofs.YtpnnojigdhkjaaaDoor
