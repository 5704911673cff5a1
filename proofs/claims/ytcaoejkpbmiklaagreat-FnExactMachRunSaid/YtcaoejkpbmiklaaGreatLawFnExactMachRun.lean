/- The law FnExactMachRun of the given program holds at every input, with no condition. -/
import Derived.Test.YtcaoejkpbmiklaaGreatRows
import Derived.Test.YtcaoejkpbmiklaaGreatMg8
import Derived.Test.YtcaoejkpbmiklaaGreatRowP
import Derived.Test.YtcaoejkpbmiklaaGreatChecked
import Derived.WalkKit
import Derived.ProofKit
import Derived.OpenShut
import Derived.ShutString
import Derived.ChangeOld
import Derived.Below
import Derived.SizedLaws
import Derived.ChangeSlices
namespace Go.Proofs.YtcaoejkpbmiklaaGreat.fnExactMachRun
open Go.ChangeShapes Go.WideShapes Go.ChangeAt Go.RowKit Go.Vc
set_option linter.unusedVariables false
theorem own : ownKnob Tryz.prog.godebug = none := by kernel_rfl
theorem laidOut : laidOutB Tryz.prog = true := by kernel_rfl
theorem walk {w : World} {us0 : List Value} {u0 : Unt} (w0 : ∀ h : Heap, (∀ b, h b = w.heap[b]?) → UntR h us0 u0) (a1 : Int) : Calls Tryz.prog 3 #[.agg ⟨us0⟩, .int .i64 a1] w fun e w' => e = .returned (.bool true) ∧ Below w.heap.size w w' :=
  below_of_pure (args := [.agg ⟨us0⟩, .int .i64 a1]) (fun h _ hh => FnExactMachRun_c us0 u0 a1 h (w0 h hh))
set_option maxRecDepth 100000 in
theorem lifted (os : Os) (started : os.Started) (H : Type) (enc : TypeId × Value → H) :
    ReturnsInHanded {} Tryz.checked os 3 .any (Rows.fnExactMachRunSpec.pre6 enc Tryz.prog Tryz.f3 Rows.fnExactMachRunRow.domain false) (Rows.fnExactMachRunSpec.post enc Tryz.prog Tryz.f3 false true false false) := by
  refine returnsInHanded_of_change_sized (C := Tryz.checked) own started (by kernel_rfl) Tryz.func3
    (ChangeSpec.witness6 (enc := enc) (C := Tryz.checked) false ⟨#[], #[.agg #[.slice none 0 0, .slice none 0 0], .int .i64 0], []⟩ 8 (by kernel_rfl) (by kernel_rfl) (by kernel_rfl) (by kernel_rfl)) ?_
  intro W base args ds gs before hval0 hW hcnd hsz0 _
  have hsz : (DataW.weightsEach Tryz.prog (Tryz.f3.params.toList ++ Rows.fnExactMachRunSpec.plain.varTypes Tryz.prog) (ds ++ gs)).all (· ≤ reachBytes) = true := hsz0
  have hval : ∀ (j : Nat) t v, Tryz.f3.params[j]? = some t → args[j]? = some v → Value.okWide Tryz.prog W .any base t v := hval0
  have hW' := hW
  obtain ⟨p, q, hA0, hV, rfl, hfz, hnd⟩ := hW
  have hA : DataW.TrodAll enc Tryz.prog W 0 (fun _ => true) true Tryz.f3.params.toList args.toList ds p := hA0
  rw [Tryz.params3] at hA hval hsz
  obtain ⟨v0, vs0, d0, ds0, p0, q0, hargs, rfl, rfl, h0, r0⟩ := trodAll_cons hA
  obtain ⟨v1, vs1, d1, ds1, p1, q1, rfl, rfl, rfl, h1, r1⟩ := trodAll_cons r0
  obtain ⟨rfl, rfl, rfl⟩ := trodAll_nil r1
  obtain rfl : args = #[v0, v1] := by cases args; simp_all
  obtain ⟨rfl, rfl⟩ := trodVars_none hV
  obtain ⟨c0, rfl, _⟩ := okWide_struct Tryz.underlying25 (hval 0 25 v0 rfl rfl)
  have k0 := h0
  have lt0 : ∀ x ∈ p0, x.block < W.heap.size := by obtain ⟨m, hm⟩ := k0; exact DataW.trod_lt m _ _ _ hm
  have lg0 : Light Tryz.prog 25 d0 := fun n hn => of_decide_eq_true (List.all_eq_true.1 hsz n (DataW.weights_mem_each (j := 0) rfl rfl n hn))
  obtain ⟨u0, w0⟩ : ∃ u, ∀ h : Heap, (∀ b, h b = W.heap[b]?) → UntR h c0.toList u := by
    obtain ⟨fuel, hf⟩ := h0
    obtain ⟨u, hu⟩ := (o_unt (h := fun b => W.heap[b]?) (fun _ => rfl) _ _ _ hf lg0).2
    exact ⟨u, fun h hh => by rw [show h = fun b => W.heap[b]? from funext hh]; exact hu⟩
  obtain ⟨a1, rfl, rfl, rfl, w1⟩ := open_int Tryz.underlying3 (hval 1 3 v1 rfl rfl) h1
  clear hA0 hval0 hsz0 hsz
  refine (walk w0 a1).mono fun e W' ⟨he, bel⟩ => ?_
  subst he
  exact ⟨_, rfl, _, _, _, [], _, [], hW', trodAll_mk1 (shut_bool Tryz.underlying4 _), (trodAll_cons_mk (Below.trod laidOut (by kernel_rfl) (of_decide_eq_true (by kernel_rfl)) k0 bel lt0) (trodAll_cons_mk (shut_int Tryz.underlying3 w1) trodAll_mk0)), rfl, bel.frame _, fun h => by cases h⟩
/-! What the row asks, fact by fact. -/
theorem j0 : (Rows.fnExactMachRunRow.wf (OpenSpec.ofChange Rows.fnExactMachRunSpec) : Bool) = true := by kernel_rfl
theorem j3 : (Tryz.f3.params.all (Tryz.pinned.checked.prog.readableRec ·) : Bool) = true := by kernel_rfl
theorem j4 : (namedTie Tryz.pinned.checked.prog Rows.fnExactMachRunRow.named Rows.fnExactMachRunSpec.vars : Bool) = true := by kernel_rfl
theorem j5 : ((Rows.fnExactMachRunRow.stops == []) : Bool) = true := by kernel_rfl
theorem j7 : ((Rows.fnExactMachRunRow.knobs == []) : Bool) = true := by kernel_rfl
theorem j9 : ((Rows.fnExactMachRunRow.inPlace == Tryz.pinned.checked.prog.inPlace 3) : Bool) = true := by kernel_rfl
theorem j10 : ((Rows.fnExactMachRunRow.unfollowed == Tryz.pinned.checked.prog.unfollowed 3) : Bool) = true := by kernel_rfl
theorem j11 : ((Rows.fnExactMachRunRow.recurses == Tryz.pinned.checked.prog.recurses 3) : Bool) = true := by kernel_rfl
theorem j12 : ((Rows.fnExactMachRunRow.named == Tryz.pinned.checked.prog.varsNamed 3) : Bool) = true := by kernel_rfl
theorem j13 : ((Rows.fnExactMachRunRow.maps == (Tryz.f3.params.toList ++ Rows.fnExactMachRunSpec.plain.varTypes Tryz.pinned.checked.prog).any (Tryz.pinned.checked.prog.mapsRec ·)) : Bool) = true := by kernel_rfl
theorem j14 : ((Rows.fnExactMachRunRow.ifaces == (Tryz.f3.params.toList ++ Rows.fnExactMachRunSpec.plain.varTypes Tryz.pinned.checked.prog).any (Tryz.pinned.checked.prog.ifacesRec ·)) : Bool) = true := by kernel_rfl
theorem j15 : ((Rows.fnExactMachRunRow.mapsOut == Tryz.pinned.checked.prog.mapsAmong Tryz.f3.resultTypes.toList) : Bool) = true := by kernel_rfl
theorem j16 : ((Rows.fnExactMachRunRow.loops == (Tryz.f3.params.toList ++ Rows.fnExactMachRunSpec.plain.varTypes Tryz.pinned.checked.prog).any (Tryz.pinned.checked.prog.loopsFrom ·)) : Bool) = true := by kernel_rfl
theorem j17 : ((Rows.fnExactMachRunRow.wideKeys == (Tryz.f3.params.toList ++ Rows.fnExactMachRunSpec.plain.varTypes Tryz.pinned.checked.prog ++ Tryz.f3.resultTypes.toList).any (Tryz.pinned.checked.prog.wideKeysFrom ·)) : Bool) = true := by kernel_rfl
theorem j18 : (Rows.fnExactMachRunSpec.vars.all (Tryz.pinned.checked.prog.varReadable ·) : Bool) = true := by kernel_rfl
theorem j19 : (Tryz.f3.resultTypes.all (fun t => Tryz.pinned.checked.prog.readableRec t && decide (t < Tryz.pinned.checked.prog.types.size)) : Bool) = true := by kernel_rfl
theorem j20 : ((Rows.fnExactMachRunRow.ifacesOut == Tryz.f3.resultTypes.toList.any (Tryz.pinned.checked.prog.ifacesRec ·)) : Bool) = true := by kernel_rfl
theorem j21 : ((Rows.fnExactMachRunRow.loopsOut == Tryz.f3.resultTypes.toList.any (Tryz.pinned.checked.prog.loopsFrom ·)) : Bool) = true := by kernel_rfl
theorem j22 : ((Rows.fnExactMachRunRow.plainKeys == Tryz.pinned.checked.prog.plainKeys) : Bool) = true := by kernel_rfl
theorem j23 : (Rows.fnExactMachRunRow.shortTexts.isNone : Bool) = true := by kernel_rfl
theorem j26 : ((Rows.fnExactMachRunRow.lifted == Tryz.pinned.checked.prog.liftsFinal) : Bool) = true := by kernel_rfl
theorem j27 : ((Tryz.pinned.checked.prog.make == some Rows.fnExactMachRunRow.make) : Bool) = true := by kernel_rfl
theorem j29 : ((Rows.fnExactMachRunRow.pinned == Rows.fnExactMachRunRow.pinnedBy) : Bool) = true := by kernel_rfl
theorem j30 : ((Rows.fnExactMachRunRow.veiled == (Tryz.f3.params.toList ++ Rows.fnExactMachRunSpec.plain.varTypes Tryz.pinned.checked.prog ++ Tryz.f3.resultTypes.toList).any (Tryz.pinned.checked.prog.veiledRec ·)) : Bool) = true := by kernel_rfl
theorem j31 : (Rows.fnExactMachRunRow.veiledFits Tryz.pinned.checked.prog Tryz.f3.params.toList (Tryz.f3.params.toList ++ Rows.fnExactMachRunSpec.plain.varTypes Tryz.pinned.checked.prog ++ Tryz.f3.resultTypes.toList) : Bool) = true := by kernel_rfl
theorem named : Tryz.pinned.checked.prog.funcNamed Rows.fnExactMachRunRow.func = some 3 := by kernel_rfl
theorem wrap : Tryz.f3.isWrapper Tryz.pinned.checked.prog Rows.fnExactMachRunRow.wrapper Rows.fnExactMachRunRow.mainSum := by unfold Func.isWrapper; first | (rw [if_pos (by decide +kernel)]; kernel_rfl) | (rw [if_neg (by decide +kernel)]; exact ⟨rfl, rfl⟩)
theorem inst : Tryz.f3.isInstance Tryz.pinned.checked.prog Rows.fnExactMachRunRow.origin Rows.fnExactMachRunRow.targs := of_decide_eq_true (by kernel_rfl)
set_option maxRecDepth 100000 in
theorem closed : joinedFacts Tryz.pinned.checked.prog 3 Tryz.f3 Rows.fnExactMachRunSpec Rows.fnExactMachRunRow = true := by
  unfold joinedFacts
  exact OfProg.andT (OfProg.andT (OfProg.andT (OfProg.andT (OfProg.andT (OfProg.andT (OfProg.andT (OfProg.andT (OfProg.andT (OfProg.andT (OfProg.andT (OfProg.andT (OfProg.andT (OfProg.andT (OfProg.andT (OfProg.andT (OfProg.andT (OfProg.andT (OfProg.andT (OfProg.andT (OfProg.andT (OfProg.andT (OfProg.andT (OfProg.andT (OfProg.andT (OfProg.andT (OfProg.andT (OfProg.andT (OfProg.andT (OfProg.andT (OfProg.andT j0 OfProg.laid) OfProg.maps) j3) j4) j5) OfProg.stops) j7) OfProg.knobs) j9) j10) j11) j12) j13) j14) j15) j16) j17) j18) j19) j20) j21) j22) j23) OfProg.heard) OfProg.enter) j26) j27) (by kernel_rfl)) j29) j30) j31
theorem over : Rows.fnExactMachRunRow.holds Tryz.pinned (OpenSpec.ofChange Rows.fnExactMachRunSpec) :=
  OpenClaim.holds_of_wide 3 Tryz.f3 rfl rfl rfl rfl rfl rfl rfl ⟨rfl, rfl, rfl, rfl, rfl⟩ rfl rfl rfl rfl rfl named Tryz.func3 closed inst wrap
    (fun os started H enc _ => lifted os started H enc)
theorem proved : Rows.FnExactMachRunSaid := over
#print axioms proved
end Go.Proofs.YtcaoejkpbmiklaaGreat.fnExactMachRun
namespace Go.Proofs.YtcaoejkpbmiklaaGreat
/-- The law, under a short name, for the claim. -/
theorem fnExactMachRun_holds : Rows.FnExactMachRunSaid := fnExactMachRun.proved
end Go.Proofs.YtcaoejkpbmiklaaGreat
