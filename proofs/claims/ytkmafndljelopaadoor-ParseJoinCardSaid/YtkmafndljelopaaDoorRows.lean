/-
  NARROWER THAN 'FOR EVERY INPUT', by the rows' own cells (each row's printed sentence says how): ParseReads: loops, laid · ParseDeep: laid · ParsePlaces: loops, laid · ParseBack: loops, laid · ParseSame: loops, laid · ParseBlanks: loops, laid · ParseJoin: loops, laid · ParseKnown: laid.
  DERIVED. THE GIVEN ROWS OF THIS SEAT. 8 by the template 'for every input the law returns true; each argument reads behind the call as it read before'; 0 by the template 'total and deterministic' (their statements: YtkmafndljelopaaDoorTotals.lean).
  GIVEN WITH THE SEED: the statements are not yours to turn. If you find one false, say at which input.
  Laid BY PROGRAM, IN A SANDBOX (cutbox-rows.mjs): the forced cells as the released guide's own fill.sh prints them over the translation 198ddfca6978eea6… (all of the seat's roots in one cut). By AI agents, Wed Nov 11 2026. No macro, syntax, notation, axiom, sorry.
-/
import Derived.Test.YtkmafndljelopaaDoorChecked
import GoSem.Claim
import GoSem.ClaimJoined
import GoSem.ClaimMapViews
import Derived.JoinedTies
import Derived.KernelRfl
namespace Go.Proofs.YtkmafndljelopaaDoor
/- THE CELL 'sum', in the pinned program and in every row, IS THE sha256 OF THE DUMP (.gsa) THAT YtkmafndljelopaaDoorProg.lean LOADS. Nothing in Lean hashes anything: it is a label: what it is worth is what the hold of that sum in a sandbox is worth. -/
noncomputable def Tryd.pinned : Pinned := { name := "ytkmafndljelopaadoor", sum := "198ddfca6978eea69a13d70b117c34e141c72d96f01a4b6419931ebe7ec4c393", checked := Tryd.checked }
namespace Rows
def none {H : Type} : Left H := { results := [], args := [] }

/- WHAT THE LISTED PACKAGE-LEVEL VARIABLES READ AS WHEN THE CALL BEGINS. Each datum BY PROGRAM (the guide's laid-datum.mjs) off the statement by which the dump's own 'gosem.cut.vars' lays the variable. In a bare row this is a premise. The card (YtkmafndljelopaaDoorCards.lean) ties it to the program's text. -/
def laid_unicode_White_Space {H : Type} : DataW H := .ptr (.agg [.slice [.agg [.lit (.int .u16 9), .lit (.int .u16 13), .lit (.int .u16 1)], .agg [.lit (.int .u16 32), .lit (.int .u16 133), .lit (.int .u16 101)], .agg [.lit (.int .u16 160), .lit (.int .u16 5760), .lit (.int .u16 5600)], .agg [.lit (.int .u16 8192), .lit (.int .u16 8202), .lit (.int .u16 1)], .agg [.lit (.int .u16 8232), .lit (.int .u16 8233), .lit (.int .u16 1)], .agg [.lit (.int .u16 8239), .lit (.int .u16 8287), .lit (.int .u16 48)], .agg [.lit (.int .u16 12288), .lit (.int .u16 12288), .lit (.int .u16 1)]] [], .nil, .lit (.int .i64 2)])
def laid_strings_asciiSpace {H : Type} : DataW H := .agg [.lit (.int .u8 0), .lit (.int .u8 0), .lit (.int .u8 0), .lit (.int .u8 0), .lit (.int .u8 0), .lit (.int .u8 0), .lit (.int .u8 0), .lit (.int .u8 0), .lit (.int .u8 0), .lit (.int .u8 1), .lit (.int .u8 1), .lit (.int .u8 1), .lit (.int .u8 1), .lit (.int .u8 1), .lit (.int .u8 0), .lit (.int .u8 0), .lit (.int .u8 0), .lit (.int .u8 0), .lit (.int .u8 0), .lit (.int .u8 0), .lit (.int .u8 0), .lit (.int .u8 0), .lit (.int .u8 0), .lit (.int .u8 0), .lit (.int .u8 0), .lit (.int .u8 0), .lit (.int .u8 0), .lit (.int .u8 0), .lit (.int .u8 0), .lit (.int .u8 0), .lit (.int .u8 0), .lit (.int .u8 0), .lit (.int .u8 1), .lit (.int .u8 0), .lit (.int .u8 0), .lit (.int .u8 0), .lit (.int .u8 0), .lit (.int .u8 0), .lit (.int .u8 0), .lit (.int .u8 0), .lit (.int .u8 0), .lit (.int .u8 0), .lit (.int .u8 0), .lit (.int .u8 0), .lit (.int .u8 0), .lit (.int .u8 0), .lit (.int .u8 0), .lit (.int .u8 0), .lit (.int .u8 0), .lit (.int .u8 0), .lit (.int .u8 0), .lit (.int .u8 0), .lit (.int .u8 0), .lit (.int .u8 0), .lit (.int .u8 0), .lit (.int .u8 0), .lit (.int .u8 0), .lit (.int .u8 0), .lit (.int .u8 0), .lit (.int .u8 0), .lit (.int .u8 0), .lit (.int .u8 0), .lit (.int .u8 0), .lit (.int .u8 0), .lit (.int .u8 0), .lit (.int .u8 0), .lit (.int .u8 0), .lit (.int .u8 0), .lit (.int .u8 0), .lit (.int .u8 0), .lit (.int .u8 0), .lit (.int .u8 0), .lit (.int .u8 0), .lit (.int .u8 0), .lit (.int .u8 0), .lit (.int .u8 0), .lit (.int .u8 0), .lit (.int .u8 0), .lit (.int .u8 0), .lit (.int .u8 0), .lit (.int .u8 0), .lit (.int .u8 0), .lit (.int .u8 0), .lit (.int .u8 0), .lit (.int .u8 0), .lit (.int .u8 0), .lit (.int .u8 0), .lit (.int .u8 0), .lit (.int .u8 0), .lit (.int .u8 0), .lit (.int .u8 0), .lit (.int .u8 0), .lit (.int .u8 0), .lit (.int .u8 0), .lit (.int .u8 0), .lit (.int .u8 0), .lit (.int .u8 0), .lit (.int .u8 0), .lit (.int .u8 0), .lit (.int .u8 0), .lit (.int .u8 0), .lit (.int .u8 0), .lit (.int .u8 0), .lit (.int .u8 0), .lit (.int .u8 0), .lit (.int .u8 0), .lit (.int .u8 0), .lit (.int .u8 0), .lit (.int .u8 0), .lit (.int .u8 0), .lit (.int .u8 0), .lit (.int .u8 0), .lit (.int .u8 0), .lit (.int .u8 0), .lit (.int .u8 0), .lit (.int .u8 0), .lit (.int .u8 0), .lit (.int .u8 0), .lit (.int .u8 0), .lit (.int .u8 0), .lit (.int .u8 0), .lit (.int .u8 0), .lit (.int .u8 0), .lit (.int .u8 0), .lit (.int .u8 0), .lit (.int .u8 0), .lit (.int .u8 0), .lit (.int .u8 0), .lit (.int .u8 0), .lit (.int .u8 0), .lit (.int .u8 0), .lit (.int .u8 0), .lit (.int .u8 0), .lit (.int .u8 0), .lit (.int .u8 0), .lit (.int .u8 0), .lit (.int .u8 0), .lit (.int .u8 0), .lit (.int .u8 0), .lit (.int .u8 0), .lit (.int .u8 0), .lit (.int .u8 0), .lit (.int .u8 0), .lit (.int .u8 0), .lit (.int .u8 0), .lit (.int .u8 0), .lit (.int .u8 0), .lit (.int .u8 0), .lit (.int .u8 0), .lit (.int .u8 0), .lit (.int .u8 0), .lit (.int .u8 0), .lit (.int .u8 0), .lit (.int .u8 0), .lit (.int .u8 0), .lit (.int .u8 0), .lit (.int .u8 0), .lit (.int .u8 0), .lit (.int .u8 0), .lit (.int .u8 0), .lit (.int .u8 0), .lit (.int .u8 0), .lit (.int .u8 0), .lit (.int .u8 0), .lit (.int .u8 0), .lit (.int .u8 0), .lit (.int .u8 0), .lit (.int .u8 0), .lit (.int .u8 0), .lit (.int .u8 0), .lit (.int .u8 0), .lit (.int .u8 0), .lit (.int .u8 0), .lit (.int .u8 0), .lit (.int .u8 0), .lit (.int .u8 0), .lit (.int .u8 0), .lit (.int .u8 0), .lit (.int .u8 0), .lit (.int .u8 0), .lit (.int .u8 0), .lit (.int .u8 0), .lit (.int .u8 0), .lit (.int .u8 0), .lit (.int .u8 0), .lit (.int .u8 0), .lit (.int .u8 0), .lit (.int .u8 0), .lit (.int .u8 0), .lit (.int .u8 0), .lit (.int .u8 0), .lit (.int .u8 0), .lit (.int .u8 0), .lit (.int .u8 0), .lit (.int .u8 0), .lit (.int .u8 0), .lit (.int .u8 0), .lit (.int .u8 0), .lit (.int .u8 0), .lit (.int .u8 0), .lit (.int .u8 0), .lit (.int .u8 0), .lit (.int .u8 0), .lit (.int .u8 0), .lit (.int .u8 0), .lit (.int .u8 0), .lit (.int .u8 0), .lit (.int .u8 0), .lit (.int .u8 0), .lit (.int .u8 0), .lit (.int .u8 0), .lit (.int .u8 0), .lit (.int .u8 0), .lit (.int .u8 0), .lit (.int .u8 0), .lit (.int .u8 0), .lit (.int .u8 0), .lit (.int .u8 0), .lit (.int .u8 0), .lit (.int .u8 0), .lit (.int .u8 0), .lit (.int .u8 0), .lit (.int .u8 0), .lit (.int .u8 0), .lit (.int .u8 0), .lit (.int .u8 0), .lit (.int .u8 0), .lit (.int .u8 0), .lit (.int .u8 0), .lit (.int .u8 0), .lit (.int .u8 0), .lit (.int .u8 0), .lit (.int .u8 0), .lit (.int .u8 0), .lit (.int .u8 0), .lit (.int .u8 0), .lit (.int .u8 0), .lit (.int .u8 0), .lit (.int .u8 0), .lit (.int .u8 0), .lit (.int .u8 0), .lit (.int .u8 0), .lit (.int .u8 0), .lit (.int .u8 0), .lit (.int .u8 0), .lit (.int .u8 0), .lit (.int .u8 0), .lit (.int .u8 0), .lit (.int .u8 0), .lit (.int .u8 0), .lit (.int .u8 0), .lit (.int .u8 0), .lit (.int .u8 0), .lit (.int .u8 0), .lit (.int .u8 0), .lit (.int .u8 0)]

/-- 'deadboltlaw6.ParseReads': WHATEVER THE INPUT: true; the input reads as it did. -/
def parseReadsSpec : ChangeSpec := { name := "parseReads", fn := fun _ => fun
  | [d1, d2, d3, d4, d5, d6, d7] => { results := [.lit (.bool true)], args := [d1, d2, d3, d4, d5, d6, d7] }
  | _ => none }
def parseReadsRow : OpenClaim := { program := "ytkmafndljelopaadoor", sum := "198ddfca6978eea69a13d70b117c34e141c72d96f01a4b6419931ebe7ec4c393", func := "deadbolt/deadboltlaw6.ParseReads", spec := "parseReads", inPlace := ["internal/abi.NoEscape", "internal/bytealg.MakeNoZero"], unfollowed := true, recurses := true, named := ["strings.asciiSpace", "unicode.White_Space"], loops := true, apart := false, laid := [("unicode.White_Space", laid_unicode_White_Space), ("strings.asciiSpace", laid_strings_asciiSpace)] }
def ParseReadsSaid : Prop := parseReadsRow.holds Tryd.pinned (OpenSpec.ofChange parseReadsSpec)

/-- ITS FALSE NEIGHBOUR: 'it returns false'. Refute it at one input. -/
def parseReadsWrong : ChangeSpec := { name := "parseReads", fn := fun _ => fun
  | [d1, d2, d3, d4, d5, d6, d7] => { results := [.lit (.bool false)], args := [d1, d2, d3, d4, d5, d6, d7] }
  | _ => none }
def ParseReadsWrongFalsely : Prop := parseReadsRow.holds Tryd.pinned (OpenSpec.ofChange parseReadsWrong)

/-- 'deadboltlaw6.ParseDeep': WHATEVER THE INPUT: true; the input reads as it did. -/
def parseDeepSpec : ChangeSpec := { name := "parseDeep", fn := fun _ => fun
  | [d1, d2] => { results := [.lit (.bool true)], args := [d1, d2] }
  | _ => none }
def parseDeepRow : OpenClaim := { program := "ytkmafndljelopaadoor", sum := "198ddfca6978eea69a13d70b117c34e141c72d96f01a4b6419931ebe7ec4c393", func := "deadbolt/deadboltlaw6.ParseDeep", spec := "parseDeep", inPlace := ["internal/abi.NoEscape", "internal/bytealg.MakeNoZero"], unfollowed := true, recurses := true, named := ["strings.asciiSpace", "unicode.White_Space"], apart := false, laid := [("unicode.White_Space", laid_unicode_White_Space), ("strings.asciiSpace", laid_strings_asciiSpace)] }
def ParseDeepSaid : Prop := parseDeepRow.holds Tryd.pinned (OpenSpec.ofChange parseDeepSpec)

/-- ITS FALSE NEIGHBOUR: 'it returns false'. Refute it at one input. -/
def parseDeepWrong : ChangeSpec := { name := "parseDeep", fn := fun _ => fun
  | [d1, d2] => { results := [.lit (.bool false)], args := [d1, d2] }
  | _ => none }
def ParseDeepWrongFalsely : Prop := parseDeepRow.holds Tryd.pinned (OpenSpec.ofChange parseDeepWrong)

/-- 'deadboltlaw6.ParsePlaces': WHATEVER THE INPUT: true; the input reads as it did. -/
def parsePlacesSpec : ChangeSpec := { name := "parsePlaces", fn := fun _ => fun
  | [d1, d2] => { results := [.lit (.bool true)], args := [d1, d2] }
  | _ => none }
def parsePlacesRow : OpenClaim := { program := "ytkmafndljelopaadoor", sum := "198ddfca6978eea69a13d70b117c34e141c72d96f01a4b6419931ebe7ec4c393", func := "deadbolt/deadboltlaw6.ParsePlaces", spec := "parsePlaces", inPlace := ["internal/abi.NoEscape", "internal/bytealg.MakeNoZero"], unfollowed := true, recurses := true, named := ["strings.asciiSpace", "unicode.White_Space"], loops := true, apart := false, laid := [("unicode.White_Space", laid_unicode_White_Space), ("strings.asciiSpace", laid_strings_asciiSpace)] }
def ParsePlacesSaid : Prop := parsePlacesRow.holds Tryd.pinned (OpenSpec.ofChange parsePlacesSpec)

/-- ITS FALSE NEIGHBOUR: 'it returns false'. Refute it at one input. -/
def parsePlacesWrong : ChangeSpec := { name := "parsePlaces", fn := fun _ => fun
  | [d1, d2] => { results := [.lit (.bool false)], args := [d1, d2] }
  | _ => none }
def ParsePlacesWrongFalsely : Prop := parsePlacesRow.holds Tryd.pinned (OpenSpec.ofChange parsePlacesWrong)

/-- 'deadboltlaw6.ParseBack': WHATEVER THE INPUT: true; the input reads as it did. -/
def parseBackSpec : ChangeSpec := { name := "parseBack", fn := fun _ => fun
  | [d1, d2, d3, d4, d5] => { results := [.lit (.bool true)], args := [d1, d2, d3, d4, d5] }
  | _ => none }
def parseBackRow : OpenClaim := { program := "ytkmafndljelopaadoor", sum := "198ddfca6978eea69a13d70b117c34e141c72d96f01a4b6419931ebe7ec4c393", func := "deadbolt/deadboltlaw6.ParseBack", spec := "parseBack", inPlace := ["internal/abi.NoEscape", "internal/bytealg.MakeNoZero"], unfollowed := true, recurses := true, named := ["strings.asciiSpace", "unicode.White_Space"], loops := true, apart := false, laid := [("unicode.White_Space", laid_unicode_White_Space), ("strings.asciiSpace", laid_strings_asciiSpace)] }
def ParseBackSaid : Prop := parseBackRow.holds Tryd.pinned (OpenSpec.ofChange parseBackSpec)

/-- ITS FALSE NEIGHBOUR: 'it returns false'. Refute it at one input. -/
def parseBackWrong : ChangeSpec := { name := "parseBack", fn := fun _ => fun
  | [d1, d2, d3, d4, d5] => { results := [.lit (.bool false)], args := [d1, d2, d3, d4, d5] }
  | _ => none }
def ParseBackWrongFalsely : Prop := parseBackRow.holds Tryd.pinned (OpenSpec.ofChange parseBackWrong)

/-- 'deadboltlaw6.ParseSame': WHATEVER THE INPUT: true; the input reads as it did. -/
def parseSameSpec : ChangeSpec := { name := "parseSame", fn := fun _ => fun
  | [d1, d2, d3, d4, d5, d6] => { results := [.lit (.bool true)], args := [d1, d2, d3, d4, d5, d6] }
  | _ => none }
def parseSameRow : OpenClaim := { program := "ytkmafndljelopaadoor", sum := "198ddfca6978eea69a13d70b117c34e141c72d96f01a4b6419931ebe7ec4c393", func := "deadbolt/deadboltlaw6.ParseSame", spec := "parseSame", inPlace := ["internal/abi.NoEscape", "internal/bytealg.MakeNoZero"], unfollowed := true, recurses := true, named := ["strings.asciiSpace", "unicode.White_Space"], loops := true, apart := false, laid := [("unicode.White_Space", laid_unicode_White_Space), ("strings.asciiSpace", laid_strings_asciiSpace)] }
def ParseSameSaid : Prop := parseSameRow.holds Tryd.pinned (OpenSpec.ofChange parseSameSpec)

/-- ITS FALSE NEIGHBOUR: 'it returns false'. Refute it at one input. -/
def parseSameWrong : ChangeSpec := { name := "parseSame", fn := fun _ => fun
  | [d1, d2, d3, d4, d5, d6] => { results := [.lit (.bool false)], args := [d1, d2, d3, d4, d5, d6] }
  | _ => none }
def ParseSameWrongFalsely : Prop := parseSameRow.holds Tryd.pinned (OpenSpec.ofChange parseSameWrong)

/-- 'deadboltlaw6.ParseBlanks': WHATEVER THE INPUT: true; the input reads as it did. -/
def parseBlanksSpec : ChangeSpec := { name := "parseBlanks", fn := fun _ => fun
  | [d1, d2, d3] => { results := [.lit (.bool true)], args := [d1, d2, d3] }
  | _ => none }
def parseBlanksRow : OpenClaim := { program := "ytkmafndljelopaadoor", sum := "198ddfca6978eea69a13d70b117c34e141c72d96f01a4b6419931ebe7ec4c393", func := "deadbolt/deadboltlaw6.ParseBlanks", spec := "parseBlanks", inPlace := ["internal/abi.NoEscape", "internal/bytealg.MakeNoZero"], unfollowed := true, recurses := true, named := ["strings.asciiSpace", "unicode.White_Space"], loops := true, apart := false, laid := [("unicode.White_Space", laid_unicode_White_Space), ("strings.asciiSpace", laid_strings_asciiSpace)] }
def ParseBlanksSaid : Prop := parseBlanksRow.holds Tryd.pinned (OpenSpec.ofChange parseBlanksSpec)

/-- ITS FALSE NEIGHBOUR: 'it returns false'. Refute it at one input. -/
def parseBlanksWrong : ChangeSpec := { name := "parseBlanks", fn := fun _ => fun
  | [d1, d2, d3] => { results := [.lit (.bool false)], args := [d1, d2, d3] }
  | _ => none }
def ParseBlanksWrongFalsely : Prop := parseBlanksRow.holds Tryd.pinned (OpenSpec.ofChange parseBlanksWrong)

/-- 'deadboltlaw6.ParseJoin': WHATEVER THE INPUT: true; the input reads as it did. -/
def parseJoinSpec : ChangeSpec := { name := "parseJoin", fn := fun _ => fun
  | [d1, d2, d3] => { results := [.lit (.bool true)], args := [d1, d2, d3] }
  | _ => none }
def parseJoinRow : OpenClaim := { program := "ytkmafndljelopaadoor", sum := "198ddfca6978eea69a13d70b117c34e141c72d96f01a4b6419931ebe7ec4c393", func := "deadbolt/deadboltlaw6.ParseJoin", spec := "parseJoin", inPlace := ["internal/abi.NoEscape", "internal/bytealg.MakeNoZero"], unfollowed := true, recurses := true, named := ["strings.asciiSpace", "unicode.White_Space"], loops := true, apart := false, laid := [("unicode.White_Space", laid_unicode_White_Space), ("strings.asciiSpace", laid_strings_asciiSpace)] }
def ParseJoinSaid : Prop := parseJoinRow.holds Tryd.pinned (OpenSpec.ofChange parseJoinSpec)

/-- ITS FALSE NEIGHBOUR: 'it returns false'. Refute it at one input. -/
def parseJoinWrong : ChangeSpec := { name := "parseJoin", fn := fun _ => fun
  | [d1, d2, d3] => { results := [.lit (.bool false)], args := [d1, d2, d3] }
  | _ => none }
def ParseJoinWrongFalsely : Prop := parseJoinRow.holds Tryd.pinned (OpenSpec.ofChange parseJoinWrong)

/-- 'deadboltlaw6.ParseKnown': WHATEVER THE INPUT: true; the input reads as it did. -/
def parseKnownSpec : ChangeSpec := { name := "parseKnown", fn := fun _ => fun
  | [d] => { results := [.lit (.bool true)], args := [d] }
  | _ => none }
def parseKnownRow : OpenClaim := { program := "ytkmafndljelopaadoor", sum := "198ddfca6978eea69a13d70b117c34e141c72d96f01a4b6419931ebe7ec4c393", func := "deadbolt/deadboltlaw6.ParseKnown", spec := "parseKnown", inPlace := ["internal/abi.NoEscape", "internal/bytealg.MakeNoZero"], unfollowed := true, recurses := true, named := ["strings.asciiSpace", "unicode.White_Space"], apart := false, laid := [("unicode.White_Space", laid_unicode_White_Space), ("strings.asciiSpace", laid_strings_asciiSpace)] }
def ParseKnownSaid : Prop := parseKnownRow.holds Tryd.pinned (OpenSpec.ofChange parseKnownSpec)

/-- ITS FALSE NEIGHBOUR: 'it returns false'. Refute it at one input. -/
def parseKnownWrong : ChangeSpec := { name := "parseKnown", fn := fun _ => fun
  | [d] => { results := [.lit (.bool false)], args := [d] }
  | _ => none }
def ParseKnownWrongFalsely : Prop := parseKnownRow.holds Tryd.pinned (OpenSpec.ofChange parseKnownWrong)

/- THE SECOND FORM. 'bulk': how many values and letters a reading holds, each counted each time it is reached (what is shared counts as often as it is met; a slice's spare places count too). A statement '..UptoSaid' is the law's where the arguments, and the package variables that the reading takes, are together of bulk at most 1048576: NARROWER than '..Said'. Prove '..Said' where nothing that the law and all that it calls make is longer than what came in: it says more and counts as full. Else prove '..UptoSaid'. A law counts once. -/
mutual
def uptoBulk {H : Type} : DataW H → Nat
  | .lit (.string bytes) => bytes.length + 1
  | .lit _ => 1
  | .nil => 1
  | .ptr d => uptoBulk d + 1
  | .slice elems spare => uptoBulkAll elems + uptoBulkAll spare + 1
  | .agg parts => uptoBulkAll parts + 1
  | .iface _ d => uptoBulk d + 1
  | .map entries => uptoBulkEntries entries + 1
  | .held _ => 1
def uptoBulkAll {H : Type} : List (DataW H) → Nat
  | [] => 0
  | d :: r => uptoBulk d + uptoBulkAll r
def uptoBulkEntries {H : Type} : List (Lit × DataW H) → Nat
  | [] => 0
  | x :: r => uptoBulkEntry x + uptoBulkEntries r
def uptoBulkEntry {H : Type} : Lit × DataW H → Nat
  | (.string bytes, d) => bytes.length + uptoBulk d + 1
  | (_, d) => uptoBulk d + 1
 end
def uptoSmall : (H : Type) → List (DataW H) → Bool := fun _ ds => decide (uptoBulkAll ds ≤ 1048576)
def OpenSpec.upto (s : _root_.Go.ChangeSpec) : _root_.Go.OpenSpec := { _root_.Go.OpenSpec.ofChange s with cond := some uptoSmall }

/-- 'deadboltlaw6.ParseReads', WHERE WHAT IT READS IS OF BULK AT MOST 1048576: true; the input reads as it did. -/
def parseReadsUptoRow : OpenClaim := { program := "ytkmafndljelopaadoor", sum := "198ddfca6978eea69a13d70b117c34e141c72d96f01a4b6419931ebe7ec4c393", func := "deadbolt/deadboltlaw6.ParseReads", spec := "parseReads", inPlace := ["internal/abi.NoEscape", "internal/bytealg.MakeNoZero"], unfollowed := true, recurses := true, named := ["strings.asciiSpace", "unicode.White_Space"], loops := true, apart := false, laid := [("unicode.White_Space", laid_unicode_White_Space), ("strings.asciiSpace", laid_strings_asciiSpace)], narrowed := true }
def ParseReadsUptoSaid : Prop := parseReadsUptoRow.holds Tryd.pinned (OpenSpec.upto parseReadsSpec)

/-- 'deadboltlaw6.ParseDeep', WHERE WHAT IT READS IS OF BULK AT MOST 1048576: true; the input reads as it did. -/
def parseDeepUptoRow : OpenClaim := { program := "ytkmafndljelopaadoor", sum := "198ddfca6978eea69a13d70b117c34e141c72d96f01a4b6419931ebe7ec4c393", func := "deadbolt/deadboltlaw6.ParseDeep", spec := "parseDeep", inPlace := ["internal/abi.NoEscape", "internal/bytealg.MakeNoZero"], unfollowed := true, recurses := true, named := ["strings.asciiSpace", "unicode.White_Space"], apart := false, laid := [("unicode.White_Space", laid_unicode_White_Space), ("strings.asciiSpace", laid_strings_asciiSpace)], narrowed := true }
def ParseDeepUptoSaid : Prop := parseDeepUptoRow.holds Tryd.pinned (OpenSpec.upto parseDeepSpec)

/-- 'deadboltlaw6.ParsePlaces', WHERE WHAT IT READS IS OF BULK AT MOST 1048576: true; the input reads as it did. -/
def parsePlacesUptoRow : OpenClaim := { program := "ytkmafndljelopaadoor", sum := "198ddfca6978eea69a13d70b117c34e141c72d96f01a4b6419931ebe7ec4c393", func := "deadbolt/deadboltlaw6.ParsePlaces", spec := "parsePlaces", inPlace := ["internal/abi.NoEscape", "internal/bytealg.MakeNoZero"], unfollowed := true, recurses := true, named := ["strings.asciiSpace", "unicode.White_Space"], loops := true, apart := false, laid := [("unicode.White_Space", laid_unicode_White_Space), ("strings.asciiSpace", laid_strings_asciiSpace)], narrowed := true }
def ParsePlacesUptoSaid : Prop := parsePlacesUptoRow.holds Tryd.pinned (OpenSpec.upto parsePlacesSpec)

/-- 'deadboltlaw6.ParseBack', WHERE WHAT IT READS IS OF BULK AT MOST 1048576: true; the input reads as it did. -/
def parseBackUptoRow : OpenClaim := { program := "ytkmafndljelopaadoor", sum := "198ddfca6978eea69a13d70b117c34e141c72d96f01a4b6419931ebe7ec4c393", func := "deadbolt/deadboltlaw6.ParseBack", spec := "parseBack", inPlace := ["internal/abi.NoEscape", "internal/bytealg.MakeNoZero"], unfollowed := true, recurses := true, named := ["strings.asciiSpace", "unicode.White_Space"], loops := true, apart := false, laid := [("unicode.White_Space", laid_unicode_White_Space), ("strings.asciiSpace", laid_strings_asciiSpace)], narrowed := true }
def ParseBackUptoSaid : Prop := parseBackUptoRow.holds Tryd.pinned (OpenSpec.upto parseBackSpec)

/-- 'deadboltlaw6.ParseSame', WHERE WHAT IT READS IS OF BULK AT MOST 1048576: true; the input reads as it did. -/
def parseSameUptoRow : OpenClaim := { program := "ytkmafndljelopaadoor", sum := "198ddfca6978eea69a13d70b117c34e141c72d96f01a4b6419931ebe7ec4c393", func := "deadbolt/deadboltlaw6.ParseSame", spec := "parseSame", inPlace := ["internal/abi.NoEscape", "internal/bytealg.MakeNoZero"], unfollowed := true, recurses := true, named := ["strings.asciiSpace", "unicode.White_Space"], loops := true, apart := false, laid := [("unicode.White_Space", laid_unicode_White_Space), ("strings.asciiSpace", laid_strings_asciiSpace)], narrowed := true }
def ParseSameUptoSaid : Prop := parseSameUptoRow.holds Tryd.pinned (OpenSpec.upto parseSameSpec)

/-- 'deadboltlaw6.ParseBlanks', WHERE WHAT IT READS IS OF BULK AT MOST 1048576: true; the input reads as it did. -/
def parseBlanksUptoRow : OpenClaim := { program := "ytkmafndljelopaadoor", sum := "198ddfca6978eea69a13d70b117c34e141c72d96f01a4b6419931ebe7ec4c393", func := "deadbolt/deadboltlaw6.ParseBlanks", spec := "parseBlanks", inPlace := ["internal/abi.NoEscape", "internal/bytealg.MakeNoZero"], unfollowed := true, recurses := true, named := ["strings.asciiSpace", "unicode.White_Space"], loops := true, apart := false, laid := [("unicode.White_Space", laid_unicode_White_Space), ("strings.asciiSpace", laid_strings_asciiSpace)], narrowed := true }
def ParseBlanksUptoSaid : Prop := parseBlanksUptoRow.holds Tryd.pinned (OpenSpec.upto parseBlanksSpec)

/-- 'deadboltlaw6.ParseJoin', WHERE WHAT IT READS IS OF BULK AT MOST 1048576: true; the input reads as it did. -/
def parseJoinUptoRow : OpenClaim := { program := "ytkmafndljelopaadoor", sum := "198ddfca6978eea69a13d70b117c34e141c72d96f01a4b6419931ebe7ec4c393", func := "deadbolt/deadboltlaw6.ParseJoin", spec := "parseJoin", inPlace := ["internal/abi.NoEscape", "internal/bytealg.MakeNoZero"], unfollowed := true, recurses := true, named := ["strings.asciiSpace", "unicode.White_Space"], loops := true, apart := false, laid := [("unicode.White_Space", laid_unicode_White_Space), ("strings.asciiSpace", laid_strings_asciiSpace)], narrowed := true }
def ParseJoinUptoSaid : Prop := parseJoinUptoRow.holds Tryd.pinned (OpenSpec.upto parseJoinSpec)

/-- 'deadboltlaw6.ParseKnown', WHERE WHAT IT READS IS OF BULK AT MOST 1048576: true; the input reads as it did. -/
def parseKnownUptoRow : OpenClaim := { program := "ytkmafndljelopaadoor", sum := "198ddfca6978eea69a13d70b117c34e141c72d96f01a4b6419931ebe7ec4c393", func := "deadbolt/deadboltlaw6.ParseKnown", spec := "parseKnown", inPlace := ["internal/abi.NoEscape", "internal/bytealg.MakeNoZero"], unfollowed := true, recurses := true, named := ["strings.asciiSpace", "unicode.White_Space"], apart := false, laid := [("unicode.White_Space", laid_unicode_White_Space), ("strings.asciiSpace", laid_strings_asciiSpace)], narrowed := true }
def ParseKnownUptoSaid : Prop := parseKnownUptoRow.holds Tryd.pinned (OpenSpec.upto parseKnownSpec)

end Rows
end Go.Proofs.YtkmafndljelopaaDoor
