/- The row of the law NamesKnown, proved: for every input it returns true. What it needs of the program is in the walk, the run by the machine in YtllmjcjbpnhciaaGreatDoorNk; where package-level variables are listed, the tied card is closed at the end. Conditions: those of the given row. Written by wip/xrow.py. -/
import Derived.Test.YtllmjcjbpnhciaaGreatDoorRows
import Derived.Test.YtllmjcjbpnhciaaGreatDoorCards
import Derived.Test.YtllmjcjbpnhciaaGreatDoorTie
import Derived.Test.YtllmjcjbpnhciaaGreatDoorNkLaw
import Derived.LaidHandle
import Derived.Lib.LaidTab
import Derived.WalkKit
import Derived.ProofKit
import Derived.OpenShut
import Derived.ShutString
import Derived.ChangeOld
import Derived.Below
import Derived.SizedLaws
import Derived.LaidMore
import Derived.LaidLaws
import Derived.Stop.Joined
import Derived.Stop.LaidErr
import Derived.SevenTiedAt
import Derived.ChangeVars
namespace Go.Proofs.YtllmjcjbpnhciaaGreatDoor.namesKnown
open Go.ChangeShapes Go.WideShapes Go.ChangeAt Go.RowKit
open Go.ChangeMaps (open_string shut_string)
set_option linter.unusedVariables false
theorem own : ownKnob Tryz.prog.godebug = none := by kernel_rfl
/-- What the row lists of package-level variables. -/
def lst : List (String × DataW Unit) := [("errors.errorType", Rows.laid_errors_errorType), ("unicode.White_Space", Rows.laid_unicode_White_Space), ("strings.asciiSpace", Rows.laid_strings_asciiSpace)]
theorem door_met (os : Os) (args : Array Value) : laidMetH Tryz.prog lst ((World.doorLaid Tryz.prog 40 os).forCall (fun _ _ => 0) ⟨#[], args, []⟩).memory :=
  laidMetH_of_parts3 (fuel := 8) (laidMet_of_run' 8 (by kernel_rfl) (by kernel_rfl)) (by kernel_rfl) (by kernel_rfl)
/-- those that are data -/
def lstP : List (String × DataW Unit) := [("unicode.White_Space", Rows.laid_unicode_White_Space), ("strings.asciiSpace", Rows.laid_strings_asciiSpace)]
/-- the handle of a type -/
def lstE : List (String × DataW Unit) := [("errors.errorType", Rows.laid_errors_errorType)]
/-- What the condition gives of the error's type. -/
theorem err_of {W : World} (h : laidMetH Tryz.prog lst W) : W.cell? ⟨0, 0, none⟩ = some (.iface 169 (.agg #[.pointer (some ⟨5, 82, none⟩)])) := by
  obtain ⟨name, u, ty, e1, e2, e3, e4, e5⟩ := (show laidMet Tryz.prog lstP W ∧ handlesMet Tryz.prog lstE W from h).2 ("errors.errorType", Rows.laid_errors_errorType) (List.mem_cons_self ..)
  have en : name = [101, 114, 114, 111, 114] := (Option.some.inj e1).symm
  subst en
  have rt : (Tryz.prog.cutTypes.find? (·.1 == "internal/reflectlite.rtype")).map (·.2) = some 169 := by kernel_rfl
  obtain rfl := Option.some.inj (rt.symm.trans e2)
  have size : Tryz.prog.types.size = 242 := by kernel_rfl
  have oneRow : ((List.range 242).filter fun t => Tryz.prog.rowNamed t [101, 114, 114, 111, 114]) = [82] := by kernel_rfl
  have hm : ty ∈ (List.range 242).filter fun t => Tryz.prog.rowNamed t [101, 114, 114, 111, 114] := List.mem_filter.2 ⟨List.mem_range.2 (by rw [← size]; exact e3), e4⟩
  rw [oneRow] at hm
  obtain rfl := List.mem_singleton.1 hm
  have hh : typeHandle Tryz.prog 82 = .pointer (some ⟨5, 82, none⟩) := by kernel_rfl
  rw [hh] at e5
  have et : Tryz.prog.globalNamed "errors.errorType" = some 0 := by kernel_rfl
  simpa using World.var?_cell et e5 0
/-- What the condition gives of the table. -/
theorem tab_of {W : World} : ∀ {l : List (String × DataW Unit)}, laidMet Tryz.prog l W → l.find? (fun x => x.1 == "strings.asciiSpace") = some ("strings.asciiSpace", Lib.tabData .u8 Lib.asciiSpaceTab) → Lib.TabIs Tryz.prog W "strings.asciiSpace" .u8 Lib.asciiSpaceTab := by
  intro l
  induction l with
  | nil => intro _ hl; simp at hl
  | cons x r ih =>
    intro h hl
    rw [List.find?_cons] at hl
    split at hl
    · obtain rfl := Option.some.inj hl
      exact Lib.tabIs_of_head Nk.gl_ascii (by kernel_rfl) Tryz.underlying191 Tryz.underlying5 (by kernel_rfl) (by kernel_rfl) h
    · exact ih h.tail hl
theorem gl {W : World} (h : laidMetH Tryz.prog lst W) : Nk.GL W := by
  have ht := tab_of (l := lstP) (show laidMet Tryz.prog lstP W ∧ handlesMet Tryz.prog lstE W from h).1 (by kernel_rfl)
  refine ⟨?_, err_of h, ht⟩
  have hc := ht.cell Nk.gl_ascii 0 (by simp [Lib.asciiSpaceTab])
  exact World.block_lt_of_cell? W _ hc
set_option maxRecDepth 100000 in
theorem lifted (os : Os) (started : os.Started) (H : Type) (enc : TypeId × Value → H) :
    ReturnsInHanded {} Tryz.checked os 6 .any (fun w args => (Rows.namesKnownSpec.pre enc Tryz.prog Tryz.f6 [] false w args ∧ laidMetH Tryz.prog lst w) ∧ sizedMet enc Tryz.prog Tryz.f6 (OpenSpec.ofChange Rows.namesKnownSpec) false w args)
      (Rows.namesKnownSpec.post enc Tryz.prog Tryz.f6 false true false false) := by
  refine returnsInHanded_of_change_and (C := Tryz.checked) (X := fun w _ => laidMetH Tryz.prog lst w) (fun _ _ _ hh h => h.of_heap hh) own started (by kernel_rfl) Tryz.func6
    (ChangeSpec.witness_shaped (enc := enc) (C := Tryz.checked) (os := os) (X := fun w _ => laidMetH Tryz.prog lst w) false (World.doorLaid Tryz.prog 40 os) #[.int .i64 0] 8 rfl (World.shaped_of_RefB (by kernel_rfl) (by kernel_rfl)) (by kernel_rfl) (by kernel_rfl) (by kernel_rfl) (door_met os _)) ?_
  intro W base args ds gs before hval0 hW hcnd hsz0 hL _
  have hsz : (DataW.weightsEach Tryz.prog (Tryz.f6.params.toList ++ Rows.namesKnownSpec.plain.varTypes Tryz.prog) (ds ++ gs)).all (· ≤ reachBytes) = true := hsz0
  have hval : ∀ (j : Nat) t v, Tryz.f6.params[j]? = some t → args[j]? = some v → Value.okWide Tryz.prog W .any base t v := hval0
  have hW' := hW
  obtain ⟨p, q, hA0, hV, rfl, hfz, hnd⟩ := hW
  have hA : DataW.TrodAll enc Tryz.prog W 0 (fun _ => true) true Tryz.f6.params.toList args.toList ds p := hA0
  rw [Tryz.params6] at hA hval hsz
  obtain ⟨v0, vs0, d0, ds0, p0, q0, hargs, rfl, rfl, h0, r0⟩ := trodAll_cons hA
  obtain ⟨rfl, rfl, rfl⟩ := trodAll_nil r0
  obtain rfl : args = #[v0] := by cases args; simp_all
  obtain ⟨rfl, rfl⟩ := trodVars_none hV
  obtain ⟨a0, rfl, rfl, rfl, w0⟩ := open_int Tryz.underlying3 (hval 0 3 v0 rfl rfl) h0
  clear hA0 hval0 hsz0 hsz
  refine (Nk.walk a0 W (gl hL)).mono fun e W' ⟨he, bel⟩ => ?_
  subst he
  exact ⟨_, rfl, _, _, _, [], _, [], hW', trodAll_mk1 (shut_bool Tryz.underlying4 _), (trodAll_cons_mk (shut_int Tryz.underlying3 w0) trodAll_mk0), rfl, bel.frame _, fun h => by cases h⟩
theorem over : Rows.namesKnownRow.holds Tryz.pinned (OpenSpec.ofChange Rows.namesKnownSpec) :=
  OpenClaim.holds_of_wide 6 Tryz.f6 rfl rfl rfl rfl rfl rfl rfl ⟨rfl, rfl, rfl, rfl, rfl⟩ rfl rfl rfl rfl rfl (by kernel_rfl) Tryz.func6 (by kernel_rfl)
    (of_decide_eq_true (by kernel_rfl)) (by unfold Func.isWrapper; first | (rw [if_pos (by decide +kernel)]; kernel_rfl) | (rw [if_neg (by decide +kernel)]; exact ⟨rfl, rfl⟩))
    (fun os started H enc _ => lifted os started H enc)
theorem proved : Rows.NamesKnownSaid := over
theorem card : Rows.NamesKnownCardSaid :=
  Claim7.holds_tied_plain_at .later [] [.handle, .listed, .data] true (true, "89d9e252854c4f3abbc2daeeb4dacb6c23bb2ace936a2ffe3ff2b1348b975dc7") true
    over (fun _ h => by cases h) (by kernel_rfl) (fun _ h => by cases h) namesKnown_row_tie rfl ⟨rfl, rfl⟩ (by kernel_rfl) rfl
    (fun f fn hf hfn => by
      obtain rfl : f = 6 := Option.some.inj ((show Tryz.prog.funcNamed "deadbolt/deadboltlaw7.NamesKnown" = some 6 by kernel_rfl).symm.trans hf) |>.symm
      obtain rfl : fn = Tryz.f6 := (Option.some.inj (Tryz.func6.symm.trans hfn)).symm
      exact ⟨by kernel_rfl, fun j t ht => by
        rw [Tryz.params6] at ht
        have hm : t ∈ [3] := by simpa using Array.mem_of_getElem? ht
        have hall : ([3].all fun u => !Tryz.prog.wantsStandIn u) = true := by kernel_rfl
        exact (show Tryz.prog.wantsStandIn t = false by simpa using List.all_eq_true.1 hall t hm)⟩)
    (by kernel_rfl)
#print axioms card
end Go.Proofs.YtllmjcjbpnhciaaGreatDoor.namesKnown
namespace Go.Proofs.YtllmjcjbpnhciaaGreatDoor
/-- The law's statement, under a short name, for the claim. -/
theorem namesKnown_holds : Rows.NamesKnownCardSaid := namesKnown.card
end Go.Proofs.YtllmjcjbpnhciaaGreatDoor
