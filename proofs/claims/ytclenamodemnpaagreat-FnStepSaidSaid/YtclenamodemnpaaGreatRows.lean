/-
  No cell of these rows narrows 'for every input' (looked for: loops, veiled, ifaces, maps, wideKeys, modest, calm, conditions, laid).
  DERIVED. THE GIVEN ROWS OF THIS SEAT. 12 by the template 'for every input the law returns true; each argument reads behind the call as it read before'; 0 by the template 'total and deterministic' (their statements: YtclenamodemnpaaGreatTotals.lean).
  GIVEN WITH THE SEED: the statements are not yours to turn. If you find one false, say at which input.
  Laid BY PROGRAM, IN A SANDBOX (cutbox-rows.mjs): the forced cells as the released guide's own fill.sh prints them over the translation 0b5a22efa98d3354… (all of the seat's roots in one cut). By AI agents, Wed Nov 11 2026. No macro, syntax, notation, axiom, sorry.
-/
import Derived.Test.YtclenamodemnpaaGreatChecked
import GoSem.Claim
import GoSem.ClaimJoined
import GoSem.ClaimMapViews
import Derived.JoinedTies
import Derived.KernelRfl
namespace Go.Proofs.YtclenamodemnpaaGreat
/- THE CELL 'sum', in the pinned program and in every row, IS THE sha256 OF THE DUMP (.gsa) THAT YtclenamodemnpaaGreatProg.lean LOADS. Nothing in Lean hashes anything: it is a label: what it is worth is what the hold of that sum in a sandbox is worth. -/
noncomputable def Tryz.pinned : Pinned := { name := "ytclenamodemnpaagreat", sum := "0b5a22efa98d335414618627d838c0fe4c12865ec15f8038d518eaf4821e9034", checked := Tryz.checked }
namespace Rows
def none {H : Type} : Left H := { results := [], args := [] }

/-- 'laws.FnRunCalls': WHATEVER THE INPUT: true; the input reads as it did. -/
def fnRunCallsSpec : ChangeSpec := { name := "fnRunCalls", fn := fun _ => fun
  | [d] => { results := [.lit (.bool true)], args := [d] }
  | _ => none }
def fnRunCallsRow : OpenClaim := { program := "ytclenamodemnpaagreat", sum := "0b5a22efa98d335414618627d838c0fe4c12865ec15f8038d518eaf4821e9034", func := "loop.example/entail/laws.FnRunCalls", spec := "fnRunCalls", unfollowed := true, recurses := true, apart := false }
def FnRunCallsSaid : Prop := fnRunCallsRow.holds Tryz.pinned (OpenSpec.ofChange fnRunCallsSpec)

/-- ITS FALSE NEIGHBOUR: 'it returns false'. Refute it at one input. -/
def fnRunCallsWrong : ChangeSpec := { name := "fnRunCalls", fn := fun _ => fun
  | [d] => { results := [.lit (.bool false)], args := [d] }
  | _ => none }
def FnRunCallsWrongFalsely : Prop := fnRunCallsRow.holds Tryz.pinned (OpenSpec.ofChange fnRunCallsWrong)

/-- 'laws.FnRunEnd': WHATEVER THE INPUT: true; the input reads as it did. -/
def fnRunEndSpec : ChangeSpec := { name := "fnRunEnd", fn := fun _ => fun
  | [d] => { results := [.lit (.bool true)], args := [d] }
  | _ => none }
def fnRunEndRow : OpenClaim := { program := "ytclenamodemnpaagreat", sum := "0b5a22efa98d335414618627d838c0fe4c12865ec15f8038d518eaf4821e9034", func := "loop.example/entail/laws.FnRunEnd", spec := "fnRunEnd", unfollowed := true, recurses := true, apart := false }
def FnRunEndSaid : Prop := fnRunEndRow.holds Tryz.pinned (OpenSpec.ofChange fnRunEndSpec)

/-- ITS FALSE NEIGHBOUR: 'it returns false'. Refute it at one input. -/
def fnRunEndWrong : ChangeSpec := { name := "fnRunEnd", fn := fun _ => fun
  | [d] => { results := [.lit (.bool false)], args := [d] }
  | _ => none }
def FnRunEndWrongFalsely : Prop := fnRunEndRow.holds Tryz.pinned (OpenSpec.ofChange fnRunEndWrong)

/-- 'laws.FnRunMethod': WHATEVER THE INPUT: true; the input reads as it did. -/
def fnRunMethodSpec : ChangeSpec := { name := "fnRunMethod", fn := fun _ => fun
  | [d1, d2] => { results := [.lit (.bool true)], args := [d1, d2] }
  | _ => none }
def fnRunMethodRow : OpenClaim := { program := "ytclenamodemnpaagreat", sum := "0b5a22efa98d335414618627d838c0fe4c12865ec15f8038d518eaf4821e9034", func := "loop.example/entail/laws.FnRunMethod", spec := "fnRunMethod", unfollowed := true, recurses := true, apart := false }
def FnRunMethodSaid : Prop := fnRunMethodRow.holds Tryz.pinned (OpenSpec.ofChange fnRunMethodSpec)

/-- ITS FALSE NEIGHBOUR: 'it returns false'. Refute it at one input. -/
def fnRunMethodWrong : ChangeSpec := { name := "fnRunMethod", fn := fun _ => fun
  | [d1, d2] => { results := [.lit (.bool false)], args := [d1, d2] }
  | _ => none }
def FnRunMethodWrongFalsely : Prop := fnRunMethodRow.holds Tryz.pinned (OpenSpec.ofChange fnRunMethodWrong)

/-- 'laws.FnRunSteps': WHATEVER THE INPUT: true; the input reads as it did. -/
def fnRunStepsSpec : ChangeSpec := { name := "fnRunSteps", fn := fun _ => fun
  | [d1, d2] => { results := [.lit (.bool true)], args := [d1, d2] }
  | _ => none }
def fnRunStepsRow : OpenClaim := { program := "ytclenamodemnpaagreat", sum := "0b5a22efa98d335414618627d838c0fe4c12865ec15f8038d518eaf4821e9034", func := "loop.example/entail/laws.FnRunSteps", spec := "fnRunSteps", unfollowed := true, recurses := true, apart := false }
def FnRunStepsSaid : Prop := fnRunStepsRow.holds Tryz.pinned (OpenSpec.ofChange fnRunStepsSpec)

/-- ITS FALSE NEIGHBOUR: 'it returns false'. Refute it at one input. -/
def fnRunStepsWrong : ChangeSpec := { name := "fnRunSteps", fn := fun _ => fun
  | [d1, d2] => { results := [.lit (.bool false)], args := [d1, d2] }
  | _ => none }
def FnRunStepsWrongFalsely : Prop := fnRunStepsRow.holds Tryz.pinned (OpenSpec.ofChange fnRunStepsWrong)

/-- 'laws.FnRunThings': WHATEVER THE INPUT: true; the input reads as it did. -/
def fnRunThingsSpec : ChangeSpec := { name := "fnRunThings", fn := fun _ => fun
  | [d] => { results := [.lit (.bool true)], args := [d] }
  | _ => none }
def fnRunThingsRow : OpenClaim := { program := "ytclenamodemnpaagreat", sum := "0b5a22efa98d335414618627d838c0fe4c12865ec15f8038d518eaf4821e9034", func := "loop.example/entail/laws.FnRunThings", spec := "fnRunThings", unfollowed := true, recurses := true, apart := false }
def FnRunThingsSaid : Prop := fnRunThingsRow.holds Tryz.pinned (OpenSpec.ofChange fnRunThingsSpec)

/-- ITS FALSE NEIGHBOUR: 'it returns false'. Refute it at one input. -/
def fnRunThingsWrong : ChangeSpec := { name := "fnRunThings", fn := fun _ => fun
  | [d] => { results := [.lit (.bool false)], args := [d] }
  | _ => none }
def FnRunThingsWrongFalsely : Prop := fnRunThingsRow.holds Tryz.pinned (OpenSpec.ofChange fnRunThingsWrong)

/-- 'laws.FnStepM': WHATEVER THE INPUT: true; the input reads as it did. -/
def fnStepMSpec : ChangeSpec := { name := "fnStepM", fn := fun _ => fun
  | [d] => { results := [.lit (.bool true)], args := [d] }
  | _ => none }
def fnStepMRow : OpenClaim := { program := "ytclenamodemnpaagreat", sum := "0b5a22efa98d335414618627d838c0fe4c12865ec15f8038d518eaf4821e9034", func := "loop.example/entail/laws.FnStepM", spec := "fnStepM", unfollowed := true, recurses := true, apart := false }
def FnStepMSaid : Prop := fnStepMRow.holds Tryz.pinned (OpenSpec.ofChange fnStepMSpec)

/-- ITS FALSE NEIGHBOUR: 'it returns false'. Refute it at one input. -/
def fnStepMWrong : ChangeSpec := { name := "fnStepM", fn := fun _ => fun
  | [d] => { results := [.lit (.bool false)], args := [d] }
  | _ => none }
def FnStepMWrongFalsely : Prop := fnStepMRow.holds Tryz.pinned (OpenSpec.ofChange fnStepMWrong)

/-- 'laws.FnStepCaught': WHATEVER THE INPUT: true; the input reads as it did. -/
def fnStepCaughtSpec : ChangeSpec := { name := "fnStepCaught", fn := fun _ => fun
  | [d] => { results := [.lit (.bool true)], args := [d] }
  | _ => none }
def fnStepCaughtRow : OpenClaim := { program := "ytclenamodemnpaagreat", sum := "0b5a22efa98d335414618627d838c0fe4c12865ec15f8038d518eaf4821e9034", func := "loop.example/entail/laws.FnStepCaught", spec := "fnStepCaught", unfollowed := true, recurses := true, apart := false }
def FnStepCaughtSaid : Prop := fnStepCaughtRow.holds Tryz.pinned (OpenSpec.ofChange fnStepCaughtSpec)

/-- ITS FALSE NEIGHBOUR: 'it returns false'. Refute it at one input. -/
def fnStepCaughtWrong : ChangeSpec := { name := "fnStepCaught", fn := fun _ => fun
  | [d] => { results := [.lit (.bool false)], args := [d] }
  | _ => none }
def FnStepCaughtWrongFalsely : Prop := fnStepCaughtRow.holds Tryz.pinned (OpenSpec.ofChange fnStepCaughtWrong)

/-- 'laws.FnStepBack': WHATEVER THE INPUT: true; the input reads as it did. -/
def fnStepBackSpec : ChangeSpec := { name := "fnStepBack", fn := fun _ => fun
  | [d] => { results := [.lit (.bool true)], args := [d] }
  | _ => none }
def fnStepBackRow : OpenClaim := { program := "ytclenamodemnpaagreat", sum := "0b5a22efa98d335414618627d838c0fe4c12865ec15f8038d518eaf4821e9034", func := "loop.example/entail/laws.FnStepBack", spec := "fnStepBack", unfollowed := true, recurses := true, apart := false }
def FnStepBackSaid : Prop := fnStepBackRow.holds Tryz.pinned (OpenSpec.ofChange fnStepBackSpec)

/-- ITS FALSE NEIGHBOUR: 'it returns false'. Refute it at one input. -/
def fnStepBackWrong : ChangeSpec := { name := "fnStepBack", fn := fun _ => fun
  | [d] => { results := [.lit (.bool false)], args := [d] }
  | _ => none }
def FnStepBackWrongFalsely : Prop := fnStepBackRow.holds Tryz.pinned (OpenSpec.ofChange fnStepBackWrong)

/-- 'laws.FnStepDo': WHATEVER THE INPUT: true; the input reads as it did. -/
def fnStepDoSpec : ChangeSpec := { name := "fnStepDo", fn := fun _ => fun
  | [d] => { results := [.lit (.bool true)], args := [d] }
  | _ => none }
def fnStepDoRow : OpenClaim := { program := "ytclenamodemnpaagreat", sum := "0b5a22efa98d335414618627d838c0fe4c12865ec15f8038d518eaf4821e9034", func := "loop.example/entail/laws.FnStepDo", spec := "fnStepDo", unfollowed := true, recurses := true, apart := false }
def FnStepDoSaid : Prop := fnStepDoRow.holds Tryz.pinned (OpenSpec.ofChange fnStepDoSpec)

/-- ITS FALSE NEIGHBOUR: 'it returns false'. Refute it at one input. -/
def fnStepDoWrong : ChangeSpec := { name := "fnStepDo", fn := fun _ => fun
  | [d] => { results := [.lit (.bool false)], args := [d] }
  | _ => none }
def FnStepDoWrongFalsely : Prop := fnStepDoRow.holds Tryz.pinned (OpenSpec.ofChange fnStepDoWrong)

/-- 'laws.FnStepNew': WHATEVER THE INPUT: true; the input reads as it did. -/
def fnStepNewSpec : ChangeSpec := { name := "fnStepNew", fn := fun _ => fun
  | [d] => { results := [.lit (.bool true)], args := [d] }
  | _ => none }
def fnStepNewRow : OpenClaim := { program := "ytclenamodemnpaagreat", sum := "0b5a22efa98d335414618627d838c0fe4c12865ec15f8038d518eaf4821e9034", func := "loop.example/entail/laws.FnStepNew", spec := "fnStepNew", unfollowed := true, recurses := true, apart := false }
def FnStepNewSaid : Prop := fnStepNewRow.holds Tryz.pinned (OpenSpec.ofChange fnStepNewSpec)

/-- ITS FALSE NEIGHBOUR: 'it returns false'. Refute it at one input. -/
def fnStepNewWrong : ChangeSpec := { name := "fnStepNew", fn := fun _ => fun
  | [d] => { results := [.lit (.bool false)], args := [d] }
  | _ => none }
def FnStepNewWrongFalsely : Prop := fnStepNewRow.holds Tryz.pinned (OpenSpec.ofChange fnStepNewWrong)

/-- 'laws.FnStepPut': WHATEVER THE INPUT: true; the input reads as it did. -/
def fnStepPutSpec : ChangeSpec := { name := "fnStepPut", fn := fun _ => fun
  | [d] => { results := [.lit (.bool true)], args := [d] }
  | _ => none }
def fnStepPutRow : OpenClaim := { program := "ytclenamodemnpaagreat", sum := "0b5a22efa98d335414618627d838c0fe4c12865ec15f8038d518eaf4821e9034", func := "loop.example/entail/laws.FnStepPut", spec := "fnStepPut", unfollowed := true, recurses := true, apart := false }
def FnStepPutSaid : Prop := fnStepPutRow.holds Tryz.pinned (OpenSpec.ofChange fnStepPutSpec)

/-- ITS FALSE NEIGHBOUR: 'it returns false'. Refute it at one input. -/
def fnStepPutWrong : ChangeSpec := { name := "fnStepPut", fn := fun _ => fun
  | [d] => { results := [.lit (.bool false)], args := [d] }
  | _ => none }
def FnStepPutWrongFalsely : Prop := fnStepPutRow.holds Tryz.pinned (OpenSpec.ofChange fnStepPutWrong)

/-- 'laws.FnStepSaid': WHATEVER THE INPUT: true; the input reads as it did. -/
def fnStepSaidSpec : ChangeSpec := { name := "fnStepSaid", fn := fun _ => fun
  | [d] => { results := [.lit (.bool true)], args := [d] }
  | _ => none }
def fnStepSaidRow : OpenClaim := { program := "ytclenamodemnpaagreat", sum := "0b5a22efa98d335414618627d838c0fe4c12865ec15f8038d518eaf4821e9034", func := "loop.example/entail/laws.FnStepSaid", spec := "fnStepSaid", unfollowed := true, recurses := true, apart := false }
def FnStepSaidSaid : Prop := fnStepSaidRow.holds Tryz.pinned (OpenSpec.ofChange fnStepSaidSpec)

/-- ITS FALSE NEIGHBOUR: 'it returns false'. Refute it at one input. -/
def fnStepSaidWrong : ChangeSpec := { name := "fnStepSaid", fn := fun _ => fun
  | [d] => { results := [.lit (.bool false)], args := [d] }
  | _ => none }
def FnStepSaidWrongFalsely : Prop := fnStepSaidRow.holds Tryz.pinned (OpenSpec.ofChange fnStepSaidWrong)

/- THE SECOND FORM. 'bulk': how many values and letters a reading holds, each counted each time it is reached (what is shared counts as often as it is met; a slice's spare places count too). A statement '..UptoSaid' is the law's where the arguments, and the package variables that the reading takes, are together of bulk at most 1048576: NARROWER than '..Said'. Prove '..Said' where nothing that the law and all that it calls make is longer than what came in: it says more and counts as full. Else prove '..UptoSaid'. A law counts once. -/
mutual
def uptoBulk {H : Type} : DataW H → Nat
  | .lit (.string bytes) => bytes.length + 1
  | .lit _ => 1
  | .nil => 1
  | .ptr d => uptoBulk d + 1
  | .slice elems spare => uptoBulkAll elems + uptoBulkAll spare + 1
  | .agg parts => uptoBulkAll parts + 1
  | .iface _ d => uptoBulk d + 1
  | .map entries => uptoBulkEntries entries + 1
  | .held _ => 1
def uptoBulkAll {H : Type} : List (DataW H) → Nat
  | [] => 0
  | d :: r => uptoBulk d + uptoBulkAll r
def uptoBulkEntries {H : Type} : List (Lit × DataW H) → Nat
  | [] => 0
  | x :: r => uptoBulkEntry x + uptoBulkEntries r
def uptoBulkEntry {H : Type} : Lit × DataW H → Nat
  | (.string bytes, d) => bytes.length + uptoBulk d + 1
  | (_, d) => uptoBulk d + 1
 end
def uptoSmall : (H : Type) → List (DataW H) → Bool := fun _ ds => decide (uptoBulkAll ds ≤ 1048576)
def OpenSpec.upto (s : _root_.Go.ChangeSpec) : _root_.Go.OpenSpec := { _root_.Go.OpenSpec.ofChange s with cond := some uptoSmall }

/-- 'laws.FnRunCalls', WHERE WHAT IT READS IS OF BULK AT MOST 1048576: true; the input reads as it did. -/
def fnRunCallsUptoRow : OpenClaim := { program := "ytclenamodemnpaagreat", sum := "0b5a22efa98d335414618627d838c0fe4c12865ec15f8038d518eaf4821e9034", func := "loop.example/entail/laws.FnRunCalls", spec := "fnRunCalls", unfollowed := true, recurses := true, apart := false, narrowed := true }
def FnRunCallsUptoSaid : Prop := fnRunCallsUptoRow.holds Tryz.pinned (OpenSpec.upto fnRunCallsSpec)

/-- 'laws.FnRunEnd', WHERE WHAT IT READS IS OF BULK AT MOST 1048576: true; the input reads as it did. -/
def fnRunEndUptoRow : OpenClaim := { program := "ytclenamodemnpaagreat", sum := "0b5a22efa98d335414618627d838c0fe4c12865ec15f8038d518eaf4821e9034", func := "loop.example/entail/laws.FnRunEnd", spec := "fnRunEnd", unfollowed := true, recurses := true, apart := false, narrowed := true }
def FnRunEndUptoSaid : Prop := fnRunEndUptoRow.holds Tryz.pinned (OpenSpec.upto fnRunEndSpec)

/-- 'laws.FnRunMethod', WHERE WHAT IT READS IS OF BULK AT MOST 1048576: true; the input reads as it did. -/
def fnRunMethodUptoRow : OpenClaim := { program := "ytclenamodemnpaagreat", sum := "0b5a22efa98d335414618627d838c0fe4c12865ec15f8038d518eaf4821e9034", func := "loop.example/entail/laws.FnRunMethod", spec := "fnRunMethod", unfollowed := true, recurses := true, apart := false, narrowed := true }
def FnRunMethodUptoSaid : Prop := fnRunMethodUptoRow.holds Tryz.pinned (OpenSpec.upto fnRunMethodSpec)

/-- 'laws.FnRunSteps', WHERE WHAT IT READS IS OF BULK AT MOST 1048576: true; the input reads as it did. -/
def fnRunStepsUptoRow : OpenClaim := { program := "ytclenamodemnpaagreat", sum := "0b5a22efa98d335414618627d838c0fe4c12865ec15f8038d518eaf4821e9034", func := "loop.example/entail/laws.FnRunSteps", spec := "fnRunSteps", unfollowed := true, recurses := true, apart := false, narrowed := true }
def FnRunStepsUptoSaid : Prop := fnRunStepsUptoRow.holds Tryz.pinned (OpenSpec.upto fnRunStepsSpec)

/-- 'laws.FnRunThings', WHERE WHAT IT READS IS OF BULK AT MOST 1048576: true; the input reads as it did. -/
def fnRunThingsUptoRow : OpenClaim := { program := "ytclenamodemnpaagreat", sum := "0b5a22efa98d335414618627d838c0fe4c12865ec15f8038d518eaf4821e9034", func := "loop.example/entail/laws.FnRunThings", spec := "fnRunThings", unfollowed := true, recurses := true, apart := false, narrowed := true }
def FnRunThingsUptoSaid : Prop := fnRunThingsUptoRow.holds Tryz.pinned (OpenSpec.upto fnRunThingsSpec)

/-- 'laws.FnStepM', WHERE WHAT IT READS IS OF BULK AT MOST 1048576: true; the input reads as it did. -/
def fnStepMUptoRow : OpenClaim := { program := "ytclenamodemnpaagreat", sum := "0b5a22efa98d335414618627d838c0fe4c12865ec15f8038d518eaf4821e9034", func := "loop.example/entail/laws.FnStepM", spec := "fnStepM", unfollowed := true, recurses := true, apart := false, narrowed := true }
def FnStepMUptoSaid : Prop := fnStepMUptoRow.holds Tryz.pinned (OpenSpec.upto fnStepMSpec)

/-- 'laws.FnStepCaught', WHERE WHAT IT READS IS OF BULK AT MOST 1048576: true; the input reads as it did. -/
def fnStepCaughtUptoRow : OpenClaim := { program := "ytclenamodemnpaagreat", sum := "0b5a22efa98d335414618627d838c0fe4c12865ec15f8038d518eaf4821e9034", func := "loop.example/entail/laws.FnStepCaught", spec := "fnStepCaught", unfollowed := true, recurses := true, apart := false, narrowed := true }
def FnStepCaughtUptoSaid : Prop := fnStepCaughtUptoRow.holds Tryz.pinned (OpenSpec.upto fnStepCaughtSpec)

/-- 'laws.FnStepBack', WHERE WHAT IT READS IS OF BULK AT MOST 1048576: true; the input reads as it did. -/
def fnStepBackUptoRow : OpenClaim := { program := "ytclenamodemnpaagreat", sum := "0b5a22efa98d335414618627d838c0fe4c12865ec15f8038d518eaf4821e9034", func := "loop.example/entail/laws.FnStepBack", spec := "fnStepBack", unfollowed := true, recurses := true, apart := false, narrowed := true }
def FnStepBackUptoSaid : Prop := fnStepBackUptoRow.holds Tryz.pinned (OpenSpec.upto fnStepBackSpec)

/-- 'laws.FnStepDo', WHERE WHAT IT READS IS OF BULK AT MOST 1048576: true; the input reads as it did. -/
def fnStepDoUptoRow : OpenClaim := { program := "ytclenamodemnpaagreat", sum := "0b5a22efa98d335414618627d838c0fe4c12865ec15f8038d518eaf4821e9034", func := "loop.example/entail/laws.FnStepDo", spec := "fnStepDo", unfollowed := true, recurses := true, apart := false, narrowed := true }
def FnStepDoUptoSaid : Prop := fnStepDoUptoRow.holds Tryz.pinned (OpenSpec.upto fnStepDoSpec)

/-- 'laws.FnStepNew', WHERE WHAT IT READS IS OF BULK AT MOST 1048576: true; the input reads as it did. -/
def fnStepNewUptoRow : OpenClaim := { program := "ytclenamodemnpaagreat", sum := "0b5a22efa98d335414618627d838c0fe4c12865ec15f8038d518eaf4821e9034", func := "loop.example/entail/laws.FnStepNew", spec := "fnStepNew", unfollowed := true, recurses := true, apart := false, narrowed := true }
def FnStepNewUptoSaid : Prop := fnStepNewUptoRow.holds Tryz.pinned (OpenSpec.upto fnStepNewSpec)

/-- 'laws.FnStepPut', WHERE WHAT IT READS IS OF BULK AT MOST 1048576: true; the input reads as it did. -/
def fnStepPutUptoRow : OpenClaim := { program := "ytclenamodemnpaagreat", sum := "0b5a22efa98d335414618627d838c0fe4c12865ec15f8038d518eaf4821e9034", func := "loop.example/entail/laws.FnStepPut", spec := "fnStepPut", unfollowed := true, recurses := true, apart := false, narrowed := true }
def FnStepPutUptoSaid : Prop := fnStepPutUptoRow.holds Tryz.pinned (OpenSpec.upto fnStepPutSpec)

/-- 'laws.FnStepSaid', WHERE WHAT IT READS IS OF BULK AT MOST 1048576: true; the input reads as it did. -/
def fnStepSaidUptoRow : OpenClaim := { program := "ytclenamodemnpaagreat", sum := "0b5a22efa98d335414618627d838c0fe4c12865ec15f8038d518eaf4821e9034", func := "loop.example/entail/laws.FnStepSaid", spec := "fnStepSaid", unfollowed := true, recurses := true, apart := false, narrowed := true }
def FnStepSaidUptoSaid : Prop := fnStepSaidUptoRow.holds Tryz.pinned (OpenSpec.upto fnStepSaidSpec)

end Rows
end Go.Proofs.YtclenamodemnpaaGreat
