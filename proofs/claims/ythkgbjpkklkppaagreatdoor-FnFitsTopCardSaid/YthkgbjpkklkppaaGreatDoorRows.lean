/-
  NARROWER THAN 'FOR EVERY INPUT', by the rows' own cells (each row's printed sentence says how): FnFitsTop: ifaces, laid · FnRunFits: ifaces, laid · FnStuckStays: ifaces, laid · FnStepFits: ifaces, laid · FnViewTwice: ifaces, laid · FnViewStep: ifaces, laid.
  DERIVED. THE GIVEN ROWS OF THIS SEAT. 6 by the template 'for every input the law returns true; each argument reads behind the call as it read before'; 0 by the template 'total and deterministic' (their statements: YthkgbjpkklkppaaGreatDoorTotals.lean).
  GIVEN WITH THE SEED: the statements are not yours to turn. If you find one false, say at which input.
  Laid BY PROGRAM, IN A SANDBOX (cutbox-rows.mjs): the forced cells as the released guide's own fill.sh prints them over the translation 36bdca860aee6c2d… (all of the seat's roots in one cut). By AI agents, Wed Nov 11 2026. No macro, syntax, notation, axiom, sorry.
-/
import Derived.Test.YthkgbjpkklkppaaGreatDoorChecked
import GoSem.Claim
import GoSem.ClaimJoined
import GoSem.ClaimMapViews
import Derived.JoinedTies
import Derived.KernelRfl
namespace Go.Proofs.YthkgbjpkklkppaaGreatDoor
/- THE CELL 'sum', in the pinned program and in every row, IS THE sha256 OF THE DUMP (.gsa) THAT YthkgbjpkklkppaaGreatDoorProg.lean LOADS. Nothing in Lean hashes anything: it is a label: what it is worth is what the hold of that sum in a sandbox is worth. -/
noncomputable def Tryz.pinned : Pinned := { name := "ythkgbjpkklkppaagreatdoor", sum := "36bdca860aee6c2da72302a4a0faffbc0ec582a1938ceba1fa787e1a01cc379e", checked := Tryz.checked }
namespace Rows
def none {H : Type} : Left H := { results := [], args := [] }

/- WHAT THE LISTED PACKAGE-LEVEL VARIABLES READ AS WHEN THE CALL BEGINS. Each datum BY PROGRAM (the guide's laid-datum.mjs) off the statement by which the dump's own 'gosem.cut.vars' lays the variable. In a bare row this is a premise. The card (YthkgbjpkklkppaaGreatDoorCards.lean) ties it to the program's text. -/
def laid_loop_example_entail_impl_errBroken {H : Type} : DataW H := .iface "*errors.errorString" (.ptr (.agg [.lit (.string [97, 32, 114, 117, 108, 101, 32, 105, 115, 32, 98, 114, 111, 107, 101, 110])]))

/-- 'laws.FnFitsTop': WHATEVER THE INPUT: true; the input reads as it did. -/
def fnFitsTopSpec : ChangeSpec := { name := "fnFitsTop", vars := ["loop.example/entail/impl.errBroken"], fn := fun _ => fun
  | [d, g1] => { results := [.lit (.bool true)], args := [d], vars := [g1] }
  | _ => none }
def fnFitsTopRow : OpenClaim := { program := "ythkgbjpkklkppaagreatdoor", sum := "36bdca860aee6c2da72302a4a0faffbc0ec582a1938ceba1fa787e1a01cc379e", func := "loop.example/entail/laws.FnFitsTop", spec := "fnFitsTop", inPlace := ["internal/reflectlite.TypeOf"], unfollowed := true, recurses := true, named := ["loop.example/entail/impl.errBroken"], ifaces := true, apart := false, laid := [("loop.example/entail/impl.errBroken", laid_loop_example_entail_impl_errBroken)] }
def FnFitsTopSaid : Prop := fnFitsTopRow.holds Tryz.pinned (OpenSpec.ofChange fnFitsTopSpec)

/-- ITS FALSE NEIGHBOUR: 'it returns false'. Refute it at one input. -/
def fnFitsTopWrong : ChangeSpec := { name := "fnFitsTop", vars := ["loop.example/entail/impl.errBroken"], fn := fun _ => fun
  | [d, g1] => { results := [.lit (.bool false)], args := [d], vars := [g1] }
  | _ => none }
def FnFitsTopWrongFalsely : Prop := fnFitsTopRow.holds Tryz.pinned (OpenSpec.ofChange fnFitsTopWrong)

/-- 'laws.FnRunFits': WHATEVER THE INPUT: true; the input reads as it did. -/
def fnRunFitsSpec : ChangeSpec := { name := "fnRunFits", vars := ["loop.example/entail/impl.errBroken"], fn := fun _ => fun
  | [d, g1] => { results := [.lit (.bool true)], args := [d], vars := [g1] }
  | _ => none }
def fnRunFitsRow : OpenClaim := { program := "ythkgbjpkklkppaagreatdoor", sum := "36bdca860aee6c2da72302a4a0faffbc0ec582a1938ceba1fa787e1a01cc379e", func := "loop.example/entail/laws.FnRunFits", spec := "fnRunFits", inPlace := ["internal/reflectlite.TypeOf"], unfollowed := true, recurses := true, named := ["loop.example/entail/impl.errBroken"], ifaces := true, apart := false, laid := [("loop.example/entail/impl.errBroken", laid_loop_example_entail_impl_errBroken)] }
def FnRunFitsSaid : Prop := fnRunFitsRow.holds Tryz.pinned (OpenSpec.ofChange fnRunFitsSpec)

/-- ITS FALSE NEIGHBOUR: 'it returns false'. Refute it at one input. -/
def fnRunFitsWrong : ChangeSpec := { name := "fnRunFits", vars := ["loop.example/entail/impl.errBroken"], fn := fun _ => fun
  | [d, g1] => { results := [.lit (.bool false)], args := [d], vars := [g1] }
  | _ => none }
def FnRunFitsWrongFalsely : Prop := fnRunFitsRow.holds Tryz.pinned (OpenSpec.ofChange fnRunFitsWrong)

/-- 'laws.FnStuckStays': WHATEVER THE INPUT: true; the input reads as it did. -/
def fnStuckStaysSpec : ChangeSpec := { name := "fnStuckStays", vars := ["loop.example/entail/impl.errBroken"], fn := fun _ => fun
  | [d, g1] => { results := [.lit (.bool true)], args := [d], vars := [g1] }
  | _ => none }
def fnStuckStaysRow : OpenClaim := { program := "ythkgbjpkklkppaagreatdoor", sum := "36bdca860aee6c2da72302a4a0faffbc0ec582a1938ceba1fa787e1a01cc379e", func := "loop.example/entail/laws.FnStuckStays", spec := "fnStuckStays", inPlace := ["internal/reflectlite.TypeOf"], unfollowed := true, recurses := true, named := ["loop.example/entail/impl.errBroken"], ifaces := true, apart := false, laid := [("loop.example/entail/impl.errBroken", laid_loop_example_entail_impl_errBroken)] }
def FnStuckStaysSaid : Prop := fnStuckStaysRow.holds Tryz.pinned (OpenSpec.ofChange fnStuckStaysSpec)

/-- ITS FALSE NEIGHBOUR: 'it returns false'. Refute it at one input. -/
def fnStuckStaysWrong : ChangeSpec := { name := "fnStuckStays", vars := ["loop.example/entail/impl.errBroken"], fn := fun _ => fun
  | [d, g1] => { results := [.lit (.bool false)], args := [d], vars := [g1] }
  | _ => none }
def FnStuckStaysWrongFalsely : Prop := fnStuckStaysRow.holds Tryz.pinned (OpenSpec.ofChange fnStuckStaysWrong)

/-- 'laws.FnStepFits': WHATEVER THE INPUT: true; the input reads as it did. -/
def fnStepFitsSpec : ChangeSpec := { name := "fnStepFits", vars := ["loop.example/entail/impl.errBroken"], fn := fun _ => fun
  | [d, g1] => { results := [.lit (.bool true)], args := [d], vars := [g1] }
  | _ => none }
def fnStepFitsRow : OpenClaim := { program := "ythkgbjpkklkppaagreatdoor", sum := "36bdca860aee6c2da72302a4a0faffbc0ec582a1938ceba1fa787e1a01cc379e", func := "loop.example/entail/laws.FnStepFits", spec := "fnStepFits", inPlace := ["internal/reflectlite.TypeOf"], unfollowed := true, recurses := true, named := ["loop.example/entail/impl.errBroken"], ifaces := true, apart := false, laid := [("loop.example/entail/impl.errBroken", laid_loop_example_entail_impl_errBroken)] }
def FnStepFitsSaid : Prop := fnStepFitsRow.holds Tryz.pinned (OpenSpec.ofChange fnStepFitsSpec)

/-- ITS FALSE NEIGHBOUR: 'it returns false'. Refute it at one input. -/
def fnStepFitsWrong : ChangeSpec := { name := "fnStepFits", vars := ["loop.example/entail/impl.errBroken"], fn := fun _ => fun
  | [d, g1] => { results := [.lit (.bool false)], args := [d], vars := [g1] }
  | _ => none }
def FnStepFitsWrongFalsely : Prop := fnStepFitsRow.holds Tryz.pinned (OpenSpec.ofChange fnStepFitsWrong)

/-- 'laws.FnViewTwice': WHATEVER THE INPUT: true; the input reads as it did. -/
def fnViewTwiceSpec : ChangeSpec := { name := "fnViewTwice", vars := ["loop.example/entail/impl.errBroken"], fn := fun _ => fun
  | [d, g1] => { results := [.lit (.bool true)], args := [d], vars := [g1] }
  | _ => none }
def fnViewTwiceRow : OpenClaim := { program := "ythkgbjpkklkppaagreatdoor", sum := "36bdca860aee6c2da72302a4a0faffbc0ec582a1938ceba1fa787e1a01cc379e", func := "loop.example/entail/laws.FnViewTwice", spec := "fnViewTwice", inPlace := ["internal/reflectlite.TypeOf"], unfollowed := true, recurses := true, named := ["loop.example/entail/impl.errBroken"], ifaces := true, apart := false, laid := [("loop.example/entail/impl.errBroken", laid_loop_example_entail_impl_errBroken)] }
def FnViewTwiceSaid : Prop := fnViewTwiceRow.holds Tryz.pinned (OpenSpec.ofChange fnViewTwiceSpec)

/-- ITS FALSE NEIGHBOUR: 'it returns false'. Refute it at one input. -/
def fnViewTwiceWrong : ChangeSpec := { name := "fnViewTwice", vars := ["loop.example/entail/impl.errBroken"], fn := fun _ => fun
  | [d, g1] => { results := [.lit (.bool false)], args := [d], vars := [g1] }
  | _ => none }
def FnViewTwiceWrongFalsely : Prop := fnViewTwiceRow.holds Tryz.pinned (OpenSpec.ofChange fnViewTwiceWrong)

/-- 'laws.FnViewStep': WHATEVER THE INPUT: true; the input reads as it did. -/
def fnViewStepSpec : ChangeSpec := { name := "fnViewStep", vars := ["loop.example/entail/impl.errBroken"], fn := fun _ => fun
  | [d, g1] => { results := [.lit (.bool true)], args := [d], vars := [g1] }
  | _ => none }
def fnViewStepRow : OpenClaim := { program := "ythkgbjpkklkppaagreatdoor", sum := "36bdca860aee6c2da72302a4a0faffbc0ec582a1938ceba1fa787e1a01cc379e", func := "loop.example/entail/laws.FnViewStep", spec := "fnViewStep", inPlace := ["internal/reflectlite.TypeOf"], unfollowed := true, recurses := true, named := ["loop.example/entail/impl.errBroken"], ifaces := true, apart := false, laid := [("loop.example/entail/impl.errBroken", laid_loop_example_entail_impl_errBroken)] }
def FnViewStepSaid : Prop := fnViewStepRow.holds Tryz.pinned (OpenSpec.ofChange fnViewStepSpec)

/-- ITS FALSE NEIGHBOUR: 'it returns false'. Refute it at one input. -/
def fnViewStepWrong : ChangeSpec := { name := "fnViewStep", vars := ["loop.example/entail/impl.errBroken"], fn := fun _ => fun
  | [d, g1] => { results := [.lit (.bool false)], args := [d], vars := [g1] }
  | _ => none }
def FnViewStepWrongFalsely : Prop := fnViewStepRow.holds Tryz.pinned (OpenSpec.ofChange fnViewStepWrong)

/- THE SECOND FORM. 'bulk': how many values and letters a reading holds, each counted each time it is reached (what is shared counts as often as it is met; a slice's spare places count too). A statement '..UptoSaid' is the law's where the arguments, and the package variables that the reading takes, are together of bulk at most 1048576: NARROWER than '..Said'. Prove '..Said' where nothing that the law and all that it calls make is longer than what came in: it says more and counts as full. Else prove '..UptoSaid'. A law counts once. -/
mutual
def uptoBulk {H : Type} : DataW H → Nat
  | .lit (.string bytes) => bytes.length + 1
  | .lit _ => 1
  | .nil => 1
  | .ptr d => uptoBulk d + 1
  | .slice elems spare => uptoBulkAll elems + uptoBulkAll spare + 1
  | .agg parts => uptoBulkAll parts + 1
  | .iface _ d => uptoBulk d + 1
  | .map entries => uptoBulkEntries entries + 1
  | .held _ => 1
def uptoBulkAll {H : Type} : List (DataW H) → Nat
  | [] => 0
  | d :: r => uptoBulk d + uptoBulkAll r
def uptoBulkEntries {H : Type} : List (Lit × DataW H) → Nat
  | [] => 0
  | x :: r => uptoBulkEntry x + uptoBulkEntries r
def uptoBulkEntry {H : Type} : Lit × DataW H → Nat
  | (.string bytes, d) => bytes.length + uptoBulk d + 1
  | (_, d) => uptoBulk d + 1
 end
def uptoSmall : (H : Type) → List (DataW H) → Bool := fun _ ds => decide (uptoBulkAll ds ≤ 1048576)
def OpenSpec.upto (s : _root_.Go.ChangeSpec) : _root_.Go.OpenSpec := { _root_.Go.OpenSpec.ofChange s with cond := some uptoSmall }

/-- 'laws.FnFitsTop', WHERE WHAT IT READS IS OF BULK AT MOST 1048576: true; the input reads as it did. -/
def fnFitsTopUptoRow : OpenClaim := { program := "ythkgbjpkklkppaagreatdoor", sum := "36bdca860aee6c2da72302a4a0faffbc0ec582a1938ceba1fa787e1a01cc379e", func := "loop.example/entail/laws.FnFitsTop", spec := "fnFitsTop", inPlace := ["internal/reflectlite.TypeOf"], unfollowed := true, recurses := true, named := ["loop.example/entail/impl.errBroken"], ifaces := true, apart := false, laid := [("loop.example/entail/impl.errBroken", laid_loop_example_entail_impl_errBroken)], narrowed := true }
def FnFitsTopUptoSaid : Prop := fnFitsTopUptoRow.holds Tryz.pinned (OpenSpec.upto fnFitsTopSpec)

/-- 'laws.FnRunFits', WHERE WHAT IT READS IS OF BULK AT MOST 1048576: true; the input reads as it did. -/
def fnRunFitsUptoRow : OpenClaim := { program := "ythkgbjpkklkppaagreatdoor", sum := "36bdca860aee6c2da72302a4a0faffbc0ec582a1938ceba1fa787e1a01cc379e", func := "loop.example/entail/laws.FnRunFits", spec := "fnRunFits", inPlace := ["internal/reflectlite.TypeOf"], unfollowed := true, recurses := true, named := ["loop.example/entail/impl.errBroken"], ifaces := true, apart := false, laid := [("loop.example/entail/impl.errBroken", laid_loop_example_entail_impl_errBroken)], narrowed := true }
def FnRunFitsUptoSaid : Prop := fnRunFitsUptoRow.holds Tryz.pinned (OpenSpec.upto fnRunFitsSpec)

/-- 'laws.FnStuckStays', WHERE WHAT IT READS IS OF BULK AT MOST 1048576: true; the input reads as it did. -/
def fnStuckStaysUptoRow : OpenClaim := { program := "ythkgbjpkklkppaagreatdoor", sum := "36bdca860aee6c2da72302a4a0faffbc0ec582a1938ceba1fa787e1a01cc379e", func := "loop.example/entail/laws.FnStuckStays", spec := "fnStuckStays", inPlace := ["internal/reflectlite.TypeOf"], unfollowed := true, recurses := true, named := ["loop.example/entail/impl.errBroken"], ifaces := true, apart := false, laid := [("loop.example/entail/impl.errBroken", laid_loop_example_entail_impl_errBroken)], narrowed := true }
def FnStuckStaysUptoSaid : Prop := fnStuckStaysUptoRow.holds Tryz.pinned (OpenSpec.upto fnStuckStaysSpec)

/-- 'laws.FnStepFits', WHERE WHAT IT READS IS OF BULK AT MOST 1048576: true; the input reads as it did. -/
def fnStepFitsUptoRow : OpenClaim := { program := "ythkgbjpkklkppaagreatdoor", sum := "36bdca860aee6c2da72302a4a0faffbc0ec582a1938ceba1fa787e1a01cc379e", func := "loop.example/entail/laws.FnStepFits", spec := "fnStepFits", inPlace := ["internal/reflectlite.TypeOf"], unfollowed := true, recurses := true, named := ["loop.example/entail/impl.errBroken"], ifaces := true, apart := false, laid := [("loop.example/entail/impl.errBroken", laid_loop_example_entail_impl_errBroken)], narrowed := true }
def FnStepFitsUptoSaid : Prop := fnStepFitsUptoRow.holds Tryz.pinned (OpenSpec.upto fnStepFitsSpec)

/-- 'laws.FnViewTwice', WHERE WHAT IT READS IS OF BULK AT MOST 1048576: true; the input reads as it did. -/
def fnViewTwiceUptoRow : OpenClaim := { program := "ythkgbjpkklkppaagreatdoor", sum := "36bdca860aee6c2da72302a4a0faffbc0ec582a1938ceba1fa787e1a01cc379e", func := "loop.example/entail/laws.FnViewTwice", spec := "fnViewTwice", inPlace := ["internal/reflectlite.TypeOf"], unfollowed := true, recurses := true, named := ["loop.example/entail/impl.errBroken"], ifaces := true, apart := false, laid := [("loop.example/entail/impl.errBroken", laid_loop_example_entail_impl_errBroken)], narrowed := true }
def FnViewTwiceUptoSaid : Prop := fnViewTwiceUptoRow.holds Tryz.pinned (OpenSpec.upto fnViewTwiceSpec)

/-- 'laws.FnViewStep', WHERE WHAT IT READS IS OF BULK AT MOST 1048576: true; the input reads as it did. -/
def fnViewStepUptoRow : OpenClaim := { program := "ythkgbjpkklkppaagreatdoor", sum := "36bdca860aee6c2da72302a4a0faffbc0ec582a1938ceba1fa787e1a01cc379e", func := "loop.example/entail/laws.FnViewStep", spec := "fnViewStep", inPlace := ["internal/reflectlite.TypeOf"], unfollowed := true, recurses := true, named := ["loop.example/entail/impl.errBroken"], ifaces := true, apart := false, laid := [("loop.example/entail/impl.errBroken", laid_loop_example_entail_impl_errBroken)], narrowed := true }
def FnViewStepUptoSaid : Prop := fnViewStepUptoRow.holds Tryz.pinned (OpenSpec.upto fnViewStepSpec)

end Rows
end Go.Proofs.YthkgbjpkklkppaaGreatDoor
