/-
  No cell of these rows narrows 'for every input' (looked for: loops, veiled, ifaces, maps, wideKeys, modest, calm, conditions, laid).
  DERIVED. THE GIVEN ROWS OF THIS SEAT. 3 by the template 'for every input the law returns true; each argument reads behind the call as it read before'; 0 by the template 'total and deterministic' (their statements: YtfihllhldnaofaaTotals.lean).
  GIVEN WITH THE SEED: the statements are not yours to turn. If you find one false, say at which input.
  Laid BY PROGRAM, IN A SANDBOX (cutbox-rows.mjs): the forced cells as the released guide's own fill.sh prints them over the translation 89aa780e415c30f4… (all of the seat's roots in one cut). By AI agents, Wed Nov 11 2026. No macro, syntax, notation, axiom, sorry.
-/
import Derived.Test.YtfihllhldnaofaaChecked
import GoSem.Claim
import GoSem.ClaimJoined
import GoSem.ClaimMapViews
import Derived.JoinedTies
import Derived.KernelRfl
namespace Go.Proofs.Ytfihllhldnaofaa
/- THE CELL 'sum', in the pinned program and in every row, IS THE sha256 OF THE DUMP (.gsa) THAT YtfihllhldnaofaaProg.lean LOADS. Nothing in Lean hashes anything: it is a label: what it is worth is what the hold of that sum in a sandbox is worth. -/
noncomputable def Try.pinned : Pinned := { name := "ytfihllhldnaofaa", sum := "89aa780e415c30f4aca823a43113cc59dd5e08dc8d8febf9b91db1f0fe6862e9", checked := Try.checked }
namespace Rows
def none {H : Type} : Left H := { results := [], args := [] }

/-- 'laws.FnExactIntDo': WHATEVER THE INPUT: true; the input reads as it did. -/
def fnExactIntDoSpec : ChangeSpec := { name := "fnExactIntDo", fn := fun _ => fun
  | [d1, d2, d3] => { results := [.lit (.bool true)], args := [d1, d2, d3] }
  | _ => none }
def fnExactIntDoRow : OpenClaim := { program := "ytfihllhldnaofaa", sum := "89aa780e415c30f4aca823a43113cc59dd5e08dc8d8febf9b91db1f0fe6862e9", func := "loop.example/entail/laws.FnExactIntDo", spec := "fnExactIntDo", unfollowed := true, recurses := true, apart := false }
def FnExactIntDoSaid : Prop := fnExactIntDoRow.holds Try.pinned (OpenSpec.ofChange fnExactIntDoSpec)

/-- ITS FALSE NEIGHBOUR: 'it returns false'. Refute it at one input. -/
def fnExactIntDoWrong : ChangeSpec := { name := "fnExactIntDo", fn := fun _ => fun
  | [d1, d2, d3] => { results := [.lit (.bool false)], args := [d1, d2, d3] }
  | _ => none }
def FnExactIntDoWrongFalsely : Prop := fnExactIntDoRow.holds Try.pinned (OpenSpec.ofChange fnExactIntDoWrong)

/-- 'laws.FnIntDiv': WHATEVER THE INPUT: true; the input reads as it did. -/
def fnIntDivSpec : ChangeSpec := { name := "fnIntDiv", fn := fun _ => fun
  | [d] => { results := [.lit (.bool true)], args := [d] }
  | _ => none }
def fnIntDivRow : OpenClaim := { program := "ytfihllhldnaofaa", sum := "89aa780e415c30f4aca823a43113cc59dd5e08dc8d8febf9b91db1f0fe6862e9", func := "loop.example/entail/laws.FnIntDiv", spec := "fnIntDiv", unfollowed := true, recurses := true, apart := false }
def FnIntDivSaid : Prop := fnIntDivRow.holds Try.pinned (OpenSpec.ofChange fnIntDivSpec)

/-- ITS FALSE NEIGHBOUR: 'it returns false'. Refute it at one input. -/
def fnIntDivWrong : ChangeSpec := { name := "fnIntDiv", fn := fun _ => fun
  | [d] => { results := [.lit (.bool false)], args := [d] }
  | _ => none }
def FnIntDivWrongFalsely : Prop := fnIntDivRow.holds Try.pinned (OpenSpec.ofChange fnIntDivWrong)

/-- 'laws.FnIntRing': WHATEVER THE INPUT: true; the input reads as it did. -/
def fnIntRingSpec : ChangeSpec := { name := "fnIntRing", fn := fun _ => fun
  | [d1, d2] => { results := [.lit (.bool true)], args := [d1, d2] }
  | _ => none }
def fnIntRingRow : OpenClaim := { program := "ytfihllhldnaofaa", sum := "89aa780e415c30f4aca823a43113cc59dd5e08dc8d8febf9b91db1f0fe6862e9", func := "loop.example/entail/laws.FnIntRing", spec := "fnIntRing", unfollowed := true, recurses := true, apart := false }
def FnIntRingSaid : Prop := fnIntRingRow.holds Try.pinned (OpenSpec.ofChange fnIntRingSpec)

/-- ITS FALSE NEIGHBOUR: 'it returns false'. Refute it at one input. -/
def fnIntRingWrong : ChangeSpec := { name := "fnIntRing", fn := fun _ => fun
  | [d1, d2] => { results := [.lit (.bool false)], args := [d1, d2] }
  | _ => none }
def FnIntRingWrongFalsely : Prop := fnIntRingRow.holds Try.pinned (OpenSpec.ofChange fnIntRingWrong)

/- THE SECOND FORM. 'bulk': how many values and letters a reading holds, each counted each time it is reached (what is shared counts as often as it is met; a slice's spare places count too). A statement '..UptoSaid' is the law's where the arguments, and the package variables that the reading takes, are together of bulk at most 1048576: NARROWER than '..Said'. Prove '..Said' where nothing that the law and all that it calls make is longer than what came in: it says more and counts as full. Else prove '..UptoSaid'. A law counts once. -/
mutual
def uptoBulk {H : Type} : DataW H → Nat
  | .lit (.string bytes) => bytes.length + 1
  | .lit _ => 1
  | .nil => 1
  | .ptr d => uptoBulk d + 1
  | .slice elems spare => uptoBulkAll elems + uptoBulkAll spare + 1
  | .agg parts => uptoBulkAll parts + 1
  | .iface _ d => uptoBulk d + 1
  | .map entries => uptoBulkEntries entries + 1
  | .held _ => 1
def uptoBulkAll {H : Type} : List (DataW H) → Nat
  | [] => 0
  | d :: r => uptoBulk d + uptoBulkAll r
def uptoBulkEntries {H : Type} : List (Lit × DataW H) → Nat
  | [] => 0
  | x :: r => uptoBulkEntry x + uptoBulkEntries r
def uptoBulkEntry {H : Type} : Lit × DataW H → Nat
  | (.string bytes, d) => bytes.length + uptoBulk d + 1
  | (_, d) => uptoBulk d + 1
 end
def uptoSmall : (H : Type) → List (DataW H) → Bool := fun _ ds => decide (uptoBulkAll ds ≤ 1048576)
def OpenSpec.upto (s : _root_.Go.ChangeSpec) : _root_.Go.OpenSpec := { _root_.Go.OpenSpec.ofChange s with cond := some uptoSmall }

/-- 'laws.FnExactIntDo', WHERE WHAT IT READS IS OF BULK AT MOST 1048576: true; the input reads as it did. -/
def fnExactIntDoUptoRow : OpenClaim := { program := "ytfihllhldnaofaa", sum := "89aa780e415c30f4aca823a43113cc59dd5e08dc8d8febf9b91db1f0fe6862e9", func := "loop.example/entail/laws.FnExactIntDo", spec := "fnExactIntDo", unfollowed := true, recurses := true, apart := false, narrowed := true }
def FnExactIntDoUptoSaid : Prop := fnExactIntDoUptoRow.holds Try.pinned (OpenSpec.upto fnExactIntDoSpec)

/-- 'laws.FnIntDiv', WHERE WHAT IT READS IS OF BULK AT MOST 1048576: true; the input reads as it did. -/
def fnIntDivUptoRow : OpenClaim := { program := "ytfihllhldnaofaa", sum := "89aa780e415c30f4aca823a43113cc59dd5e08dc8d8febf9b91db1f0fe6862e9", func := "loop.example/entail/laws.FnIntDiv", spec := "fnIntDiv", unfollowed := true, recurses := true, apart := false, narrowed := true }
def FnIntDivUptoSaid : Prop := fnIntDivUptoRow.holds Try.pinned (OpenSpec.upto fnIntDivSpec)

/-- 'laws.FnIntRing', WHERE WHAT IT READS IS OF BULK AT MOST 1048576: true; the input reads as it did. -/
def fnIntRingUptoRow : OpenClaim := { program := "ytfihllhldnaofaa", sum := "89aa780e415c30f4aca823a43113cc59dd5e08dc8d8febf9b91db1f0fe6862e9", func := "loop.example/entail/laws.FnIntRing", spec := "fnIntRing", unfollowed := true, recurses := true, apart := false, narrowed := true }
def FnIntRingUptoSaid : Prop := fnIntRingUptoRow.holds Try.pinned (OpenSpec.upto fnIntRingSpec)

end Rows
end Go.Proofs.Ytfihllhldnaofaa
