/-
  No cell of these rows narrows 'for every input' (looked for: loops, veiled, ifaces, maps, wideKeys, modest, calm, conditions, laid).
  DERIVED. THE GIVEN ROWS OF THIS SEAT. 7 by the template 'for every input the law returns true; each argument reads behind the call as it read before'; 0 by the template 'total and deterministic' (their statements: YtcenghjfipkgmaaGreatTotals.lean).
  GIVEN WITH THE SEED: the statements are not yours to turn. If you find one false, say at which input.
  Laid BY PROGRAM, IN A SANDBOX (cutbox-rows.mjs): the forced cells as the released guide's own fill.sh prints them over the translation 49b09fb72c6f2332… (all of the seat's roots in one cut). By AI agents, Wed Nov 11 2026. No macro, syntax, notation, axiom, sorry.
-/
import Derived.Test.YtcenghjfipkgmaaGreatChecked
import GoSem.Claim
import GoSem.ClaimJoined
import GoSem.ClaimMapViews
import Derived.JoinedTies
import Derived.KernelRfl
namespace Go.Proofs.YtcenghjfipkgmaaGreat
/- THE CELL 'sum', in the pinned program and in every row, IS THE sha256 OF THE DUMP (.gsa) THAT YtcenghjfipkgmaaGreatProg.lean LOADS. Nothing in Lean hashes anything: it is a label: what it is worth is what the hold of that sum in a sandbox is worth. -/
noncomputable def Tryz.pinned : Pinned := { name := "ytcenghjfipkgmaagreat", sum := "49b09fb72c6f23326fdbb632fced36fc4d25f28e44d65a407f8a69eedc085e22", checked := Tryz.checked }
namespace Rows
def none {H : Type} : Left H := { results := [], args := [] }

/-- 'laws.FnStepNew': WHATEVER THE INPUT: true; the input reads as it did. -/
def fnStepNewSpec : ChangeSpec := { name := "fnStepNew", fn := fun _ => fun
  | [d] => { results := [.lit (.bool true)], args := [d] }
  | _ => none }
def fnStepNewRow : OpenClaim := { program := "ytcenghjfipkgmaagreat", sum := "49b09fb72c6f23326fdbb632fced36fc4d25f28e44d65a407f8a69eedc085e22", func := "loop.example/entail/laws.FnStepNew", spec := "fnStepNew", unfollowed := true, recurses := true, apart := false }
def FnStepNewSaid : Prop := fnStepNewRow.holds Tryz.pinned (OpenSpec.ofChange fnStepNewSpec)

/-- ITS FALSE NEIGHBOUR: 'it returns false'. Refute it at one input. -/
def fnStepNewWrong : ChangeSpec := { name := "fnStepNew", fn := fun _ => fun
  | [d] => { results := [.lit (.bool false)], args := [d] }
  | _ => none }
def FnStepNewWrongFalsely : Prop := fnStepNewRow.holds Tryz.pinned (OpenSpec.ofChange fnStepNewWrong)

/-- 'laws.FnStepDo': WHATEVER THE INPUT: true; the input reads as it did. -/
def fnStepDoSpec : ChangeSpec := { name := "fnStepDo", fn := fun _ => fun
  | [d] => { results := [.lit (.bool true)], args := [d] }
  | _ => none }
def fnStepDoRow : OpenClaim := { program := "ytcenghjfipkgmaagreat", sum := "49b09fb72c6f23326fdbb632fced36fc4d25f28e44d65a407f8a69eedc085e22", func := "loop.example/entail/laws.FnStepDo", spec := "fnStepDo", unfollowed := true, recurses := true, apart := false }
def FnStepDoSaid : Prop := fnStepDoRow.holds Tryz.pinned (OpenSpec.ofChange fnStepDoSpec)

/-- ITS FALSE NEIGHBOUR: 'it returns false'. Refute it at one input. -/
def fnStepDoWrong : ChangeSpec := { name := "fnStepDo", fn := fun _ => fun
  | [d] => { results := [.lit (.bool false)], args := [d] }
  | _ => none }
def FnStepDoWrongFalsely : Prop := fnStepDoRow.holds Tryz.pinned (OpenSpec.ofChange fnStepDoWrong)

/-- 'laws.FnStepBack': WHATEVER THE INPUT: true; the input reads as it did. -/
def fnStepBackSpec : ChangeSpec := { name := "fnStepBack", fn := fun _ => fun
  | [d] => { results := [.lit (.bool true)], args := [d] }
  | _ => none }
def fnStepBackRow : OpenClaim := { program := "ytcenghjfipkgmaagreat", sum := "49b09fb72c6f23326fdbb632fced36fc4d25f28e44d65a407f8a69eedc085e22", func := "loop.example/entail/laws.FnStepBack", spec := "fnStepBack", unfollowed := true, recurses := true, apart := false }
def FnStepBackSaid : Prop := fnStepBackRow.holds Tryz.pinned (OpenSpec.ofChange fnStepBackSpec)

/-- ITS FALSE NEIGHBOUR: 'it returns false'. Refute it at one input. -/
def fnStepBackWrong : ChangeSpec := { name := "fnStepBack", fn := fun _ => fun
  | [d] => { results := [.lit (.bool false)], args := [d] }
  | _ => none }
def FnStepBackWrongFalsely : Prop := fnStepBackRow.holds Tryz.pinned (OpenSpec.ofChange fnStepBackWrong)

/-- 'laws.FnStepPut': WHATEVER THE INPUT: true; the input reads as it did. -/
def fnStepPutSpec : ChangeSpec := { name := "fnStepPut", fn := fun _ => fun
  | [d] => { results := [.lit (.bool true)], args := [d] }
  | _ => none }
def fnStepPutRow : OpenClaim := { program := "ytcenghjfipkgmaagreat", sum := "49b09fb72c6f23326fdbb632fced36fc4d25f28e44d65a407f8a69eedc085e22", func := "loop.example/entail/laws.FnStepPut", spec := "fnStepPut", unfollowed := true, recurses := true, apart := false }
def FnStepPutSaid : Prop := fnStepPutRow.holds Tryz.pinned (OpenSpec.ofChange fnStepPutSpec)

/-- ITS FALSE NEIGHBOUR: 'it returns false'. Refute it at one input. -/
def fnStepPutWrong : ChangeSpec := { name := "fnStepPut", fn := fun _ => fun
  | [d] => { results := [.lit (.bool false)], args := [d] }
  | _ => none }
def FnStepPutWrongFalsely : Prop := fnStepPutRow.holds Tryz.pinned (OpenSpec.ofChange fnStepPutWrong)

/-- 'laws.FnStepLeads': WHATEVER THE INPUT: true; the input reads as it did. -/
def fnStepLeadsSpec : ChangeSpec := { name := "fnStepLeads", fn := fun _ => fun
  | [d] => { results := [.lit (.bool true)], args := [d] }
  | _ => none }
def fnStepLeadsRow : OpenClaim := { program := "ytcenghjfipkgmaagreat", sum := "49b09fb72c6f23326fdbb632fced36fc4d25f28e44d65a407f8a69eedc085e22", func := "loop.example/entail/laws.FnStepLeads", spec := "fnStepLeads", unfollowed := true, recurses := true, apart := false }
def FnStepLeadsSaid : Prop := fnStepLeadsRow.holds Tryz.pinned (OpenSpec.ofChange fnStepLeadsSpec)

/-- ITS FALSE NEIGHBOUR: 'it returns false'. Refute it at one input. -/
def fnStepLeadsWrong : ChangeSpec := { name := "fnStepLeads", fn := fun _ => fun
  | [d] => { results := [.lit (.bool false)], args := [d] }
  | _ => none }
def FnStepLeadsWrongFalsely : Prop := fnStepLeadsRow.holds Tryz.pinned (OpenSpec.ofChange fnStepLeadsWrong)

/-- 'laws.FnStepSend': WHATEVER THE INPUT: true; the input reads as it did. -/
def fnStepSendSpec : ChangeSpec := { name := "fnStepSend", fn := fun _ => fun
  | [d] => { results := [.lit (.bool true)], args := [d] }
  | _ => none }
def fnStepSendRow : OpenClaim := { program := "ytcenghjfipkgmaagreat", sum := "49b09fb72c6f23326fdbb632fced36fc4d25f28e44d65a407f8a69eedc085e22", func := "loop.example/entail/laws.FnStepSend", spec := "fnStepSend", unfollowed := true, recurses := true, apart := false }
def FnStepSendSaid : Prop := fnStepSendRow.holds Tryz.pinned (OpenSpec.ofChange fnStepSendSpec)

/-- ITS FALSE NEIGHBOUR: 'it returns false'. Refute it at one input. -/
def fnStepSendWrong : ChangeSpec := { name := "fnStepSend", fn := fun _ => fun
  | [d] => { results := [.lit (.bool false)], args := [d] }
  | _ => none }
def FnStepSendWrongFalsely : Prop := fnStepSendRow.holds Tryz.pinned (OpenSpec.ofChange fnStepSendWrong)

/-- 'laws.FnStepM': WHATEVER THE INPUT: true; the input reads as it did. -/
def fnStepMSpec : ChangeSpec := { name := "fnStepM", fn := fun _ => fun
  | [d] => { results := [.lit (.bool true)], args := [d] }
  | _ => none }
def fnStepMRow : OpenClaim := { program := "ytcenghjfipkgmaagreat", sum := "49b09fb72c6f23326fdbb632fced36fc4d25f28e44d65a407f8a69eedc085e22", func := "loop.example/entail/laws.FnStepM", spec := "fnStepM", unfollowed := true, recurses := true, apart := false }
def FnStepMSaid : Prop := fnStepMRow.holds Tryz.pinned (OpenSpec.ofChange fnStepMSpec)

/-- ITS FALSE NEIGHBOUR: 'it returns false'. Refute it at one input. -/
def fnStepMWrong : ChangeSpec := { name := "fnStepM", fn := fun _ => fun
  | [d] => { results := [.lit (.bool false)], args := [d] }
  | _ => none }
def FnStepMWrongFalsely : Prop := fnStepMRow.holds Tryz.pinned (OpenSpec.ofChange fnStepMWrong)

/- THE SECOND FORM. 'bulk': how many values and letters a reading holds, each counted each time it is reached (what is shared counts as often as it is met; a slice's spare places count too). A statement '..UptoSaid' is the law's where the arguments, and the package variables that the reading takes, are together of bulk at most 1048576: NARROWER than '..Said'. Prove '..Said' where nothing that the law and all that it calls make is longer than what came in: it says more and counts as full. Else prove '..UptoSaid'. A law counts once. -/
mutual
def uptoBulk {H : Type} : DataW H → Nat
  | .lit (.string bytes) => bytes.length + 1
  | .lit _ => 1
  | .nil => 1
  | .ptr d => uptoBulk d + 1
  | .slice elems spare => uptoBulkAll elems + uptoBulkAll spare + 1
  | .agg parts => uptoBulkAll parts + 1
  | .iface _ d => uptoBulk d + 1
  | .map entries => uptoBulkEntries entries + 1
  | .held _ => 1
def uptoBulkAll {H : Type} : List (DataW H) → Nat
  | [] => 0
  | d :: r => uptoBulk d + uptoBulkAll r
def uptoBulkEntries {H : Type} : List (Lit × DataW H) → Nat
  | [] => 0
  | x :: r => uptoBulkEntry x + uptoBulkEntries r
def uptoBulkEntry {H : Type} : Lit × DataW H → Nat
  | (.string bytes, d) => bytes.length + uptoBulk d + 1
  | (_, d) => uptoBulk d + 1
 end
def uptoSmall : (H : Type) → List (DataW H) → Bool := fun _ ds => decide (uptoBulkAll ds ≤ 1048576)
def OpenSpec.upto (s : _root_.Go.ChangeSpec) : _root_.Go.OpenSpec := { _root_.Go.OpenSpec.ofChange s with cond := some uptoSmall }

/-- 'laws.FnStepNew', WHERE WHAT IT READS IS OF BULK AT MOST 1048576: true; the input reads as it did. -/
def fnStepNewUptoRow : OpenClaim := { program := "ytcenghjfipkgmaagreat", sum := "49b09fb72c6f23326fdbb632fced36fc4d25f28e44d65a407f8a69eedc085e22", func := "loop.example/entail/laws.FnStepNew", spec := "fnStepNew", unfollowed := true, recurses := true, apart := false, narrowed := true }
def FnStepNewUptoSaid : Prop := fnStepNewUptoRow.holds Tryz.pinned (OpenSpec.upto fnStepNewSpec)

/-- 'laws.FnStepDo', WHERE WHAT IT READS IS OF BULK AT MOST 1048576: true; the input reads as it did. -/
def fnStepDoUptoRow : OpenClaim := { program := "ytcenghjfipkgmaagreat", sum := "49b09fb72c6f23326fdbb632fced36fc4d25f28e44d65a407f8a69eedc085e22", func := "loop.example/entail/laws.FnStepDo", spec := "fnStepDo", unfollowed := true, recurses := true, apart := false, narrowed := true }
def FnStepDoUptoSaid : Prop := fnStepDoUptoRow.holds Tryz.pinned (OpenSpec.upto fnStepDoSpec)

/-- 'laws.FnStepBack', WHERE WHAT IT READS IS OF BULK AT MOST 1048576: true; the input reads as it did. -/
def fnStepBackUptoRow : OpenClaim := { program := "ytcenghjfipkgmaagreat", sum := "49b09fb72c6f23326fdbb632fced36fc4d25f28e44d65a407f8a69eedc085e22", func := "loop.example/entail/laws.FnStepBack", spec := "fnStepBack", unfollowed := true, recurses := true, apart := false, narrowed := true }
def FnStepBackUptoSaid : Prop := fnStepBackUptoRow.holds Tryz.pinned (OpenSpec.upto fnStepBackSpec)

/-- 'laws.FnStepPut', WHERE WHAT IT READS IS OF BULK AT MOST 1048576: true; the input reads as it did. -/
def fnStepPutUptoRow : OpenClaim := { program := "ytcenghjfipkgmaagreat", sum := "49b09fb72c6f23326fdbb632fced36fc4d25f28e44d65a407f8a69eedc085e22", func := "loop.example/entail/laws.FnStepPut", spec := "fnStepPut", unfollowed := true, recurses := true, apart := false, narrowed := true }
def FnStepPutUptoSaid : Prop := fnStepPutUptoRow.holds Tryz.pinned (OpenSpec.upto fnStepPutSpec)

/-- 'laws.FnStepLeads', WHERE WHAT IT READS IS OF BULK AT MOST 1048576: true; the input reads as it did. -/
def fnStepLeadsUptoRow : OpenClaim := { program := "ytcenghjfipkgmaagreat", sum := "49b09fb72c6f23326fdbb632fced36fc4d25f28e44d65a407f8a69eedc085e22", func := "loop.example/entail/laws.FnStepLeads", spec := "fnStepLeads", unfollowed := true, recurses := true, apart := false, narrowed := true }
def FnStepLeadsUptoSaid : Prop := fnStepLeadsUptoRow.holds Tryz.pinned (OpenSpec.upto fnStepLeadsSpec)

/-- 'laws.FnStepSend', WHERE WHAT IT READS IS OF BULK AT MOST 1048576: true; the input reads as it did. -/
def fnStepSendUptoRow : OpenClaim := { program := "ytcenghjfipkgmaagreat", sum := "49b09fb72c6f23326fdbb632fced36fc4d25f28e44d65a407f8a69eedc085e22", func := "loop.example/entail/laws.FnStepSend", spec := "fnStepSend", unfollowed := true, recurses := true, apart := false, narrowed := true }
def FnStepSendUptoSaid : Prop := fnStepSendUptoRow.holds Tryz.pinned (OpenSpec.upto fnStepSendSpec)

/-- 'laws.FnStepM', WHERE WHAT IT READS IS OF BULK AT MOST 1048576: true; the input reads as it did. -/
def fnStepMUptoRow : OpenClaim := { program := "ytcenghjfipkgmaagreat", sum := "49b09fb72c6f23326fdbb632fced36fc4d25f28e44d65a407f8a69eedc085e22", func := "loop.example/entail/laws.FnStepM", spec := "fnStepM", unfollowed := true, recurses := true, apart := false, narrowed := true }
def FnStepMUptoSaid : Prop := fnStepMUptoRow.holds Tryz.pinned (OpenSpec.upto fnStepMSpec)

end Rows
end Go.Proofs.YtcenghjfipkgmaaGreat
