/- The law FnStepM of the given program holds at every input, with no condition. -/
import Derived.Test.YthkgbjpkklkppaaGreatRows
import Derived.Test.YthkgbjpkklkppaaGreatMx1
import Derived.Test.YthkgbjpkklkppaaGreatRowP
import Derived.Test.YthkgbjpkklkppaaGreatChecked
import Derived.WalkKit
import Derived.ProofKit
import Derived.OpenShut
import Derived.ShutString
import Derived.ChangeOld
import Derived.Below
import Derived.SizedLaws
import Derived.ChangeSlices
namespace Go.Proofs.YthkgbjpkklkppaaGreat.fnStepM
open Go.ChangeShapes Go.WideShapes Go.ChangeAt Go.RowKit Go.Vc
set_option linter.unusedVariables false
theorem own : ownKnob Tryz.prog.godebug = none := by kernel_rfl
theorem laidOut : laidOutB Tryz.prog = true := by kernel_rfl
def IsRow (w : World) (a : Option Addr) (len cap : Nat) (zs : List Int) : Prop :=
  (a = none ∧ len = 0 ∧ cap = 0 ∧ zs = []) ∨
  ∃ x, a = some x ∧ len ≤ cap ∧ cap ≤ maxLen ∧ zs.length = cap ∧ (∀ i, i < zs.length → w.cell? (x.add i) = some (.int .u8 (zs.getD i 0))) ∧ ∀ n ∈ zs, (Lit.int .u8 n).wf = true
theorem bytes_of {w : World} {h : Heap} {a : Option Addr} {len cap : Nat} {zs : List Int} (hr : IsRow w a len cap zs) (hh : ∀ b, h b = w.heap[b]?) : Bytes h (.slice a len cap) len := by
  refine ⟨a, cap, rfl, ?_, ?_⟩
  · rcases hr with ⟨_, h1, h2, _⟩ | ⟨x, _, h1, _⟩ <;> omega
  · rcases hr with ⟨_, h1, h2, _⟩ | ⟨⟨b, off, spot⟩, rfl, h1, h2, h3, h4, h5⟩
    · exact .inl h1
    · rcases Nat.eq_zero_or_pos len with h0 | h0
      · exact .inl h0
      · right
        have hs : spot = none := by
          have := h4 0 (by omega)
          simp only [Addr.add, World.cell?] at this
          split at this
          · cases spot with
            | none => rfl
            | some k => simp at this
          · simp at this
        subst hs
        refine ⟨b, off, rfl, fun i hi => ⟨zs.getD i 0, ?_, ?_⟩⟩
        · have := h4 i (by omega)
          rw [← this]
          unfold rd
          rw [hh b]
          unfold World.cell? Addr.add
          by_cases hi0 : i = 0
          · subst hi0
            simp
            rcases w.heap[b]? with _ | o
            · rfl
            · cases o <;> rfl
          · simp [hi0]
            rcases w.heap[b]? with _ | o
            · rfl
            · cases o <;> rfl
        · have hm : zs.getD i 0 ∈ zs := by
            have hl : i < zs.length := by omega
            rw [show zs.getD i 0 = zs[i] by simp [List.getD, hl]]
            exact List.getElem_mem hl
          have := h5 _ hm
          generalize zs.getD i 0 = y at this ⊢
          simp [Lit.wf, IntKind.min, IntKind.max, IntKind.signed, IntKind.bits] at this
          omega
theorem sized_ints {H : Type} {enc : TypeId × Value → H} {P : Program} {W : World} {base : Nat} {spare : Nat → Bool} {held : Bool} {t e : TypeId} {k : IntKind} {a : Option Addr} {len cap : Nat} {d : DataW H} {ps : List MemPlace} {ts : List TypeId} {ds : List (DataW H)} {j : Nat}
    (hsz : (DataW.weightsEach P ts ds).all (· ≤ reachBytes) = true) (ht : ts[j]? = some t) (hd : ds[j]? = some d) (hu : P.underlying t = some (.slice e)) (he : P.underlying e = some (.int k)) (hc : P.cellsOf e = 1) {B : Nat} (hB : P.bytesOf e = B)
    (h : DataW.Trod enc P W base spare held t (.slice a len cap) d ps) : len * B ≤ 140737488351232 := by
  obtain ⟨fuel, hf⟩ := h
  rcases open_ints hu he hc hf with ⟨hcs, _⟩ | ⟨x, l, c, zs, hcs, _, hl, _, hz, hx, _, _⟩
  · simp [Value.cells] at hcs
    obtain ⟨rfl, rfl, rfl⟩ := hcs
    simp
  · simp [Value.cells] at hcs
    obtain ⟨rfl, rfl, rfl⟩ := hcs
    obtain ⟨hx, _⟩ := Prod.mk.inj hx
    subst hx
    have z := sized_slice hsz ht hd hu
    rw [hB] at z
    have hl2 : len ≤ zs.length := by
      rw [hz]
      split
      · exact hl
      · exact Nat.le_refl _
    have h1 : (lits (H := H) k (zs.take len)).length + (lits (H := H) k (zs.drop len)).length = zs.length := by
      simp [lits]
      omega
    rw [h1] at z
    exact Nat.le_trans (Nat.mul_le_mul_right _ hl2) z
theorem walk {w : World} {a0 : Option Addr} {len0 cap0 : Nat} {z0 : List Int} (w0 : IsRow w a0 len0 cap0 z0) (y0 : len0 * 1 ≤ 140737488351232) : Calls Tryz.prog 3 #[.slice a0 len0 cap0] w fun e w' => e = .returned (.bool true) ∧ Below w.heap.size w w' :=
  below_of_pure (args := [.slice a0 len0 cap0]) (fun h _ hh => FnStepM_c _ len0 h (bytes_of w0 hh) (by omega))
set_option maxRecDepth 100000 in
theorem lifted (os : Os) (started : os.Started) (H : Type) (enc : TypeId × Value → H) :
    ReturnsInHanded {} Tryz.checked os 3 .any (Rows.fnStepMSpec.pre6 enc Tryz.prog Tryz.f3 Rows.fnStepMRow.domain false) (Rows.fnStepMSpec.post enc Tryz.prog Tryz.f3 false true false false) := by
  refine returnsInHanded_of_change_sized (C := Tryz.checked) own started (by kernel_rfl) Tryz.func3
    (ChangeSpec.witness6 (enc := enc) (C := Tryz.checked) false ⟨#[], #[.slice none 0 0], []⟩ 8 (by kernel_rfl) (by kernel_rfl) (by kernel_rfl) (by kernel_rfl)) ?_
  intro W base args ds gs before hval0 hW hcnd hsz0 _
  have hsz : (DataW.weightsEach Tryz.prog (Tryz.f3.params.toList ++ Rows.fnStepMSpec.plain.varTypes Tryz.prog) (ds ++ gs)).all (· ≤ reachBytes) = true := hsz0
  have hval : ∀ (j : Nat) t v, Tryz.f3.params[j]? = some t → args[j]? = some v → Value.okWide Tryz.prog W .any base t v := hval0
  have hW' := hW
  obtain ⟨p, q, hA0, hV, rfl, hfz, hnd⟩ := hW
  have hA : DataW.TrodAll enc Tryz.prog W 0 (fun _ => true) true Tryz.f3.params.toList args.toList ds p := hA0
  rw [Tryz.params3] at hA hval hsz
  obtain ⟨v0, vs0, d0, ds0, p0, q0, hargs, rfl, rfl, h0, r0⟩ := trodAll_cons hA
  obtain ⟨rfl, rfl, rfl⟩ := trodAll_nil r0
  obtain rfl : args = #[v0] := by cases args; simp_all
  obtain ⟨rfl, rfl⟩ := trodVars_none hV
  obtain ⟨a0, len0, cap0, rfl⟩ := okWide_slice Tryz.underlying22 (hval 0 22 v0 rfl rfl)
  have k0 := h0
  have lt0 : ∀ x ∈ p0, x.block < W.heap.size := by obtain ⟨m, hm⟩ := k0; exact DataW.trod_lt m _ _ _ hm
  obtain ⟨z0, w0⟩ : ∃ zs, IsRow W a0 len0 cap0 zs := by
    obtain ⟨fuel, hf⟩ := h0
    rcases open_ints Tryz.underlying22 Tryz.underlying5 (by kernel_rfl) hf with ⟨hcs, _⟩ | ⟨x, l, c, zs, hcs, _, hl, hm, hz, _, hcell, hwz⟩
    · simp [Value.cells] at hcs
      obtain ⟨rfl, rfl, rfl⟩ := hcs
      exact ⟨[], .inl ⟨rfl, rfl, rfl, rfl⟩⟩
    · simp [Value.cells] at hcs
      obtain ⟨rfl, rfl, rfl⟩ := hcs
      exact ⟨zs, .inr ⟨_, rfl, hl, hm, by simpa using hz, hcell, hwz⟩⟩
  have y0 : len0 * 1 ≤ 140737488351232 := sized_ints hsz (j := 0) (t := 22) rfl rfl Tryz.underlying22 Tryz.underlying5 (by kernel_rfl) (by kernel_rfl) h0
  clear hA0 hval0 hsz0 hsz
  refine (walk w0 y0).mono fun e W' ⟨he, bel⟩ => ?_
  subst he
  exact ⟨_, rfl, _, _, _, [], _, [], hW', trodAll_mk1 (shut_bool Tryz.underlying4 _), (trodAll_cons_mk (Below.trod laidOut (by kernel_rfl) (of_decide_eq_true (by kernel_rfl)) k0 bel lt0) trodAll_mk0), rfl, bel.frame _, fun h => by cases h⟩
theorem j0 : (Rows.fnStepMRow.wf (OpenSpec.ofChange Rows.fnStepMSpec) : Bool) = true := by kernel_rfl
theorem j3 : (Tryz.f3.params.all (Tryz.pinned.checked.prog.readableRec ·) : Bool) = true := by kernel_rfl
theorem j4 : (namedTie Tryz.pinned.checked.prog Rows.fnStepMRow.named Rows.fnStepMSpec.vars : Bool) = true := by kernel_rfl
theorem j5 : ((Rows.fnStepMRow.stops == []) : Bool) = true := by kernel_rfl
theorem j7 : ((Rows.fnStepMRow.knobs == []) : Bool) = true := by kernel_rfl
theorem j9 : ((Rows.fnStepMRow.inPlace == Tryz.pinned.checked.prog.inPlace 3) : Bool) = true := by kernel_rfl
theorem j10 : ((Rows.fnStepMRow.unfollowed == Tryz.pinned.checked.prog.unfollowed 3) : Bool) = true := by kernel_rfl
theorem j11 : ((Rows.fnStepMRow.recurses == Tryz.pinned.checked.prog.recurses 3) : Bool) = true := by kernel_rfl
theorem j12 : ((Rows.fnStepMRow.named == Tryz.pinned.checked.prog.varsNamed 3) : Bool) = true := by kernel_rfl
theorem j13 : ((Rows.fnStepMRow.maps == (Tryz.f3.params.toList ++ Rows.fnStepMSpec.plain.varTypes Tryz.pinned.checked.prog).any (Tryz.pinned.checked.prog.mapsRec ·)) : Bool) = true := by kernel_rfl
theorem j14 : ((Rows.fnStepMRow.ifaces == (Tryz.f3.params.toList ++ Rows.fnStepMSpec.plain.varTypes Tryz.pinned.checked.prog).any (Tryz.pinned.checked.prog.ifacesRec ·)) : Bool) = true := by kernel_rfl
theorem j15 : ((Rows.fnStepMRow.mapsOut == Tryz.pinned.checked.prog.mapsAmong Tryz.f3.resultTypes.toList) : Bool) = true := by kernel_rfl
theorem j16 : ((Rows.fnStepMRow.loops == (Tryz.f3.params.toList ++ Rows.fnStepMSpec.plain.varTypes Tryz.pinned.checked.prog).any (Tryz.pinned.checked.prog.loopsFrom ·)) : Bool) = true := by kernel_rfl
theorem j17 : ((Rows.fnStepMRow.wideKeys == (Tryz.f3.params.toList ++ Rows.fnStepMSpec.plain.varTypes Tryz.pinned.checked.prog ++ Tryz.f3.resultTypes.toList).any (Tryz.pinned.checked.prog.wideKeysFrom ·)) : Bool) = true := by kernel_rfl
theorem j18 : (Rows.fnStepMSpec.vars.all (Tryz.pinned.checked.prog.varReadable ·) : Bool) = true := by kernel_rfl
theorem j19 : (Tryz.f3.resultTypes.all (fun t => Tryz.pinned.checked.prog.readableRec t && decide (t < Tryz.pinned.checked.prog.types.size)) : Bool) = true := by kernel_rfl
theorem j20 : ((Rows.fnStepMRow.ifacesOut == Tryz.f3.resultTypes.toList.any (Tryz.pinned.checked.prog.ifacesRec ·)) : Bool) = true := by kernel_rfl
theorem j21 : ((Rows.fnStepMRow.loopsOut == Tryz.f3.resultTypes.toList.any (Tryz.pinned.checked.prog.loopsFrom ·)) : Bool) = true := by kernel_rfl
theorem j22 : ((Rows.fnStepMRow.plainKeys == Tryz.pinned.checked.prog.plainKeys) : Bool) = true := by kernel_rfl
theorem j23 : (Rows.fnStepMRow.shortTexts.isNone : Bool) = true := by kernel_rfl
theorem j26 : ((Rows.fnStepMRow.lifted == Tryz.pinned.checked.prog.liftsFinal) : Bool) = true := by kernel_rfl
theorem j27 : ((Tryz.pinned.checked.prog.make == some Rows.fnStepMRow.make) : Bool) = true := by kernel_rfl
theorem j29 : ((Rows.fnStepMRow.pinned == Rows.fnStepMRow.pinnedBy) : Bool) = true := by kernel_rfl
theorem j30 : ((Rows.fnStepMRow.veiled == (Tryz.f3.params.toList ++ Rows.fnStepMSpec.plain.varTypes Tryz.pinned.checked.prog ++ Tryz.f3.resultTypes.toList).any (Tryz.pinned.checked.prog.veiledRec ·)) : Bool) = true := by kernel_rfl
theorem j31 : (Rows.fnStepMRow.veiledFits Tryz.pinned.checked.prog Tryz.f3.params.toList (Tryz.f3.params.toList ++ Rows.fnStepMSpec.plain.varTypes Tryz.pinned.checked.prog ++ Tryz.f3.resultTypes.toList) : Bool) = true := by kernel_rfl
theorem named : Tryz.pinned.checked.prog.funcNamed Rows.fnStepMRow.func = some 3 := by kernel_rfl
theorem wrap : Tryz.f3.isWrapper Tryz.pinned.checked.prog Rows.fnStepMRow.wrapper Rows.fnStepMRow.mainSum := by unfold Func.isWrapper; first | (rw [if_pos (by decide +kernel)]; kernel_rfl) | (rw [if_neg (by decide +kernel)]; exact ⟨rfl, rfl⟩)
theorem inst : Tryz.f3.isInstance Tryz.pinned.checked.prog Rows.fnStepMRow.origin Rows.fnStepMRow.targs := of_decide_eq_true (by kernel_rfl)
set_option maxRecDepth 100000 in
theorem closed : joinedFacts Tryz.pinned.checked.prog 3 Tryz.f3 Rows.fnStepMSpec Rows.fnStepMRow = true := by
  unfold joinedFacts
  exact OfProg.andT (OfProg.andT (OfProg.andT (OfProg.andT (OfProg.andT (OfProg.andT (OfProg.andT (OfProg.andT (OfProg.andT (OfProg.andT (OfProg.andT (OfProg.andT (OfProg.andT (OfProg.andT (OfProg.andT (OfProg.andT (OfProg.andT (OfProg.andT (OfProg.andT (OfProg.andT (OfProg.andT (OfProg.andT (OfProg.andT (OfProg.andT (OfProg.andT (OfProg.andT (OfProg.andT (OfProg.andT (OfProg.andT (OfProg.andT (OfProg.andT j0 OfProg.laid) OfProg.maps) j3) j4) j5) OfProg.stops) j7) OfProg.knobs) j9) j10) j11) j12) j13) j14) j15) j16) j17) j18) j19) j20) j21) j22) j23) OfProg.heard) OfProg.enter) j26) j27) (by kernel_rfl)) j29) j30) j31
theorem over : Rows.fnStepMRow.holds Tryz.pinned (OpenSpec.ofChange Rows.fnStepMSpec) :=
  OpenClaim.holds_of_wide 3 Tryz.f3 rfl rfl rfl rfl rfl rfl rfl ⟨rfl, rfl, rfl, rfl, rfl⟩ rfl rfl rfl rfl rfl named Tryz.func3 closed inst wrap
    (fun os started H enc _ => lifted os started H enc)
theorem proved : Rows.FnStepMSaid := over
#print axioms proved
end Go.Proofs.YthkgbjpkklkppaaGreat.fnStepM
namespace Go.Proofs.YthkgbjpkklkppaaGreat
theorem fnStepM_holds : Rows.FnStepMSaid := fnStepM.proved
end Go.Proofs.YthkgbjpkklkppaaGreat
