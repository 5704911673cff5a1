/- The law FnFitsTop of the given program holds at every input, with no condition but what the card tells of one package variable. -/
import Derived.Test.YthkgbjpkklkppaaGreatDoorRows
import Derived.Test.YthkgbjpkklkppaaGreatDoorCards
import Derived.Test.YthkgbjpkklkppaaGreatDoorTie
import Derived.Test.YthkgbjpkklkppaaGreatDoorMt1
import Derived.Test.YthkgbjpkklkppaaGreatDoorRowP
import Derived.Test.YthkgbjpkklkppaaGreatDoorChecked
import Derived.WalkKit
import Derived.ProofKit
import Derived.OpenShut
import Derived.ShutString
import Derived.ChangeOld
import Derived.Below
import Derived.SizedLaws
import Derived.ChangeSlices
import Derived.ChangeSame
import Derived.ChangeVars
import Derived.LaidLaws
import Derived.LaidHandle
import Derived.Stop.LaidErr
import Derived.RowKitTokens
import Derived.SevenTiedAt
namespace Go.Proofs.YthkgbjpkklkppaaGreatDoor.fnFitsTop
open Go.ChangeShapes Go.WideShapes Go.ChangeAt Go.RowKit Go.Vc
set_option linter.unusedVariables false
theorem own : ownKnob Tryz.prog.godebug = none := by kernel_rfl
theorem laidOut : laidOutB Tryz.prog = true := by kernel_rfl
def IsRow (w : World) (a : Option Addr) (len cap : Nat) (zs : List Int) : Prop :=
  (a = none ∧ len = 0 ∧ cap = 0 ∧ zs = []) ∨
  ∃ x, a = some x ∧ len ≤ cap ∧ cap ≤ maxLen ∧ zs.length = cap ∧ (∀ i, i < zs.length → w.cell? (x.add i) = some (.int .u8 (zs.getD i 0))) ∧ ∀ n ∈ zs, (Lit.int .u8 n).wf = true
theorem bytes_of {w : World} {h : Heap} {a : Option Addr} {len cap : Nat} {zs : List Int} (hr : IsRow w a len cap zs) (hh : ∀ b, h b = w.heap[b]?) : Bytes h (.slice a len cap) len := by
  refine ⟨a, cap, rfl, ?_, ?_⟩
  · rcases hr with ⟨_, h1, h2, _⟩ | ⟨x, _, h1, _⟩ <;> omega
  · rcases hr with ⟨_, h1, h2, _⟩ | ⟨⟨b, off, spot⟩, rfl, h1, h2, h3, h4, h5⟩
    · exact .inl h1
    · rcases Nat.eq_zero_or_pos len with h0 | h0
      · exact .inl h0
      · right
        have hs : spot = none := by
          have := h4 0 (by omega)
          simp only [Addr.add, World.cell?] at this
          split at this
          · cases spot with
            | none => rfl
            | some k => simp at this
          · simp at this
        subst hs
        refine ⟨b, off, rfl, fun i hi => ⟨zs.getD i 0, ?_, ?_⟩⟩
        · have := h4 i (by omega)
          rw [← this]
          unfold rd
          rw [hh b]
          unfold World.cell? Addr.add
          by_cases hi0 : i = 0
          · subst hi0
            simp
            rcases w.heap[b]? with _ | o
            · rfl
            · cases o <;> rfl
          · simp [hi0]
            rcases w.heap[b]? with _ | o
            · rfl
            · cases o <;> rfl
        · have hm : zs.getD i 0 ∈ zs := by
            have hl : i < zs.length := by omega
            rw [show zs.getD i 0 = zs[i] by simp [List.getD, hl]]
            exact List.getElem_mem hl
          have := h5 _ hm
          generalize zs.getD i 0 = y at this ⊢
          simp [Lit.wf, IntKind.min, IntKind.max, IntKind.signed, IntKind.bits] at this
          omega
theorem sized_ints {H : Type} {enc : TypeId × Value → H} {P : Program} {W : World} {base : Nat} {spare : Nat → Bool} {held : Bool} {t e : TypeId} {k : IntKind} {a : Option Addr} {len cap : Nat} {d : DataW H} {ps : List MemPlace} {ts : List TypeId} {ds : List (DataW H)} {j : Nat}
    (hsz : (DataW.weightsEach P ts ds).all (· ≤ reachBytes) = true) (ht : ts[j]? = some t) (hd : ds[j]? = some d) (hu : P.underlying t = some (.slice e)) (he : P.underlying e = some (.int k)) (hc : P.cellsOf e = 1) {B : Nat} (hB : P.bytesOf e = B)
    (h : DataW.Trod enc P W base spare held t (.slice a len cap) d ps) : len * B ≤ 140737488351232 := by
  obtain ⟨fuel, hf⟩ := h
  rcases open_ints hu he hc hf with ⟨hcs, _⟩ | ⟨x, l, c, zs, hcs, _, hl, _, hz, hx, _, _⟩
  · simp [Value.cells] at hcs
    obtain ⟨rfl, rfl, rfl⟩ := hcs
    simp
  · simp [Value.cells] at hcs
    obtain ⟨rfl, rfl, rfl⟩ := hcs
    obtain ⟨hx, _⟩ := Prod.mk.inj hx
    subst hx
    have z := sized_slice hsz ht hd hu
    rw [hB] at z
    have hl2 : len ≤ zs.length := by
      rw [hz]
      split
      · exact hl
      · exact Nat.le_refl _
    have h1 : (lits (H := H) k (zs.take len)).length + (lits (H := H) k (zs.drop len)).length = zs.length := by
      simp [lits]
      omega
    rw [h1] at z
    exact Nat.le_trans (Nat.mul_le_mul_right _ hl2) z
theorem vG : Tryz.prog.globalNamed "loop.example/entail/impl.errBroken" = some 0 := by kernel_rfl
theorem vT : (Tryz.prog.globals[0]?).map (·.type) = some 68 := by kernel_rfl
theorem star : "*" ++ "errors.errorString" = "*errors.errorString" := by decide
theorem row1 (u : TypeId) (h : Tryz.prog.typeName? 3 u = some "*errors.errorString") : u = 290 :=
  typeName_ptr_named (nm := "errors.errorString") (by rw [star]; kernel_rfl) (by kernel_rfl) (by decide) u (by rw [star]; exact h)
theorem cE : Tryz.prog.cellsOf 314 = 1 := by kernel_rfl
theorem cS : Tryz.prog.cellsOf 9 = 1 := by kernel_rfl
abbrev text0 : ByteArray := { data := #[97, 32, 114, 117, 108, 101, 32, 105, 115, 32, 98, 114, 111, 107, 101, 110] }
noncomputable def low : Nat := (World.holding Tryz.prog default ⟨#[], #[], []⟩).heap.size
noncomputable def laidWorld (os : Os) : World :=
  let w0 := World.holding Tryz.prog os ⟨#[.cells #[.string text0] 314], #[], []⟩
  { w0 with heap := w0.heap.modify 0 fun
      | .cells _ t frozen => .cells #[.iface 290 (.pointer (some ⟨low, 0, none⟩))] t frozen
      | o => o }
theorem laidWorld_met (os : Os) (args : Array Value) : laidMetH Tryz.prog Rows.fnFitsTopRow.laid ((laidWorld os).forCall (fun _ _ => 0) ⟨#[], args, []⟩).memory :=
  show laidMet Tryz.prog [("loop.example/entail/impl.errBroken", Rows.laid_loop_example_entail_impl_errBroken)] _ from laidMet_of_run (ps := [.cell 0 0, .cell low 0]) 8 (by kernel_rfl) (by kernel_rfl) (by kernel_rfl)
theorem var_below {W W' : World} {cs : Array Value} (bel : Below W.heap.size W W') (h : W.var? Tryz.prog "loop.example/entail/impl.errBroken" = some cs) : W'.var? Tryz.prog "loop.example/entail/impl.errBroken" = some cs := by
  unfold World.var? at h ⊢
  rw [vG] at h ⊢
  simp only [Option.bind_some] at h ⊢
  have hlt : 0 < W.heap.size := by
    rcases Nat.lt_or_ge 0 W.heap.size with h1 | h1
    · exact h1
    · simp [Array.getElem?_eq_none h1] at h
  rw [bel.block 0 hlt]; exact h
theorem gl_of {w : World} {h : Heap} {b : Addr} (hc : w.cell? ⟨0, 0, none⟩ = some (.iface 290 (.pointer (some b)))) (hh : ∀ b, h b = w.heap[b]?) : GlE h := by
  refine ⟨b, ?_⟩
  unfold rd
  rw [hh 0]
  unfold World.cell? at hc
  revert hc
  cases w.heap[0]? with
  | none => exact fun e => nomatch e
  | some o => cases o <;> exact fun e => by first | (simp at e; done) | simpa using e
theorem walk {w : World} {a0 : Option Addr} {len0 cap0 : Nat} {z0 : List Int} {b : Addr} (w0 : IsRow w a0 len0 cap0 z0) (y0 : len0 * 1 ≤ 140737488351232) (hc : w.cell? ⟨0, 0, none⟩ = some (.iface 290 (.pointer (some b)))) : Calls Tryz.prog 3 #[.slice a0 len0 cap0] w fun e w' => e = .returned (.bool true) ∧ Below w.heap.size w w' :=
  below_of_pure (args := [.slice a0 len0 cap0]) (fun h _ hh => FnFitsTop_c _ len0 h (bytes_of w0 hh) (by omega) (gl_of hc hh))
set_option maxRecDepth 100000 in
theorem lifted (os : Os) (started : os.Started) (H : Type) (enc : TypeId × Value → H) :
    ReturnsInHanded {} Tryz.checked os 3 .any (fun w args => (Rows.fnFitsTopSpec.pre enc Tryz.prog Tryz.f3 [] false w args ∧ laidMetH Tryz.prog Rows.fnFitsTopRow.laid w) ∧ sizedMet enc Tryz.prog Tryz.f3 (OpenSpec.ofChange Rows.fnFitsTopSpec) false w args) (Rows.fnFitsTopSpec.post enc Tryz.prog Tryz.f3 false true false false) := by
  refine returnsInHanded_of_change_and (C := Tryz.checked) (X := fun w _ => laidMetH Tryz.prog Rows.fnFitsTopRow.laid w) (fun _ _ _ hh h => h.of_heap hh) own started (by kernel_rfl) Tryz.func3
    (ChangeSpec.witness_at (enc := enc) (C := Tryz.checked) (os := os) (X := fun w _ => laidMetH Tryz.prog Rows.fnFitsTopRow.laid w) false (laidWorld os) #[.slice none 0 0] 8 rfl (by kernel_rfl) (by kernel_rfl) (by kernel_rfl) (by kernel_rfl) (by kernel_rfl) (laidWorld_met os _)) ?_
  intro W base args ds gs before hval0 hW _ hsz0 hL0 _
  have hL : laidMet Tryz.prog [("loop.example/entail/impl.errBroken", Rows.laid_loop_example_entail_impl_errBroken)] W := hL0
  have hsz : (DataW.weightsEach Tryz.prog (Tryz.f3.params.toList ++ Rows.fnFitsTopSpec.plain.varTypes Tryz.prog) (ds ++ gs)).all (· ≤ reachBytes) = true := hsz0
  have hval : ∀ (j : Nat) t v, Tryz.f3.params[j]? = some t → args[j]? = some v → Value.okWide Tryz.prog W .any base t v := hval0
  have hW' := hW
  obtain ⟨p, q, hA0, hV0, rfl, hfz, hnd⟩ := hW
  have hA : DataW.TrodAll enc Tryz.prog W 0 (fun _ => true) true Tryz.f3.params.toList args.toList ds p := hA0
  have hV : DataW.TrodVars enc Tryz.prog W (fun _ => true) ["loop.example/entail/impl.errBroken"] gs q := hV0
  rw [Tryz.params3] at hA hval hsz
  obtain ⟨v0, vs0, d0, ds0, p0, q0, hargs, rfl, rfl, h0, r0⟩ := trodAll_cons hA
  obtain ⟨rfl, rfl, rfl⟩ := trodAll_nil r0
  obtain rfl : args = #[v0] := by cases args; simp_all
  obtain ⟨b, sb, hv0, _, _, _⟩ := laid_sentinel hL vG vT Tryz.underlying68 row1 Tryz.underlying290 Tryz.underlying314 rfl rfl Tryz.underlying9 cE cS
  have vr : ∀ {W' : World} sp, W'.var? Tryz.prog "loop.example/entail/impl.errBroken" = some #[.iface 290 (.pointer (some b))] → DataW.TrodVars enc Tryz.prog W' sp ["loop.example/entail/impl.errBroken"] [tok enc (.iface 290 (.pointer (some b)))] [.cell 0 0] := fun sp h => vars_read1 enc vG vT Tryz.underlying68 h trivial sp
  obtain ⟨rfl, rfl⟩ := hV.unique (vr _ hv0)
  have hg0 : W.cell? ⟨0, 0, none⟩ = some (.iface 290 (.pointer (some b))) := by simpa using World.var?_cell vG hv0 0
  obtain ⟨a0, len0, cap0, rfl⟩ := okWide_slice Tryz.underlying22 (hval 0 22 v0 rfl rfl)
  have k0 := h0
  have lt0 : ∀ x ∈ p0, x.block < W.heap.size := by obtain ⟨m, hm⟩ := k0; exact DataW.trod_lt m _ _ _ hm
  obtain ⟨z0, w0⟩ : ∃ zs, IsRow W a0 len0 cap0 zs := by
    obtain ⟨fuel, hf⟩ := h0
    rcases open_ints Tryz.underlying22 Tryz.underlying5 (by kernel_rfl) hf with ⟨hcs, _⟩ | ⟨x, l, c, zs, hcs, _, hl, hm, hz, _, hcell, hwz⟩
    · simp [Value.cells] at hcs
      obtain ⟨rfl, rfl, rfl⟩ := hcs
      exact ⟨[], .inl ⟨rfl, rfl, rfl, rfl⟩⟩
    · simp [Value.cells] at hcs
      obtain ⟨rfl, rfl, rfl⟩ := hcs
      exact ⟨zs, .inr ⟨_, rfl, hl, hm, by simpa using hz, hcell, hwz⟩⟩
  have y0 : len0 * 1 ≤ 140737488351232 := sized_ints hsz (j := 0) (t := 22) rfl rfl Tryz.underlying22 Tryz.underlying5 (by kernel_rfl) (by kernel_rfl) h0
  clear hA0 hV0 hval0 hsz0 hsz hL0
  refine (walk w0 y0 hg0).mono fun e W' ⟨he, bel⟩ => ?_
  subst he
  exact ⟨_, rfl, _, _, _, [], _, [.cell 0 0], hW', trodAll_mk1 (shut_bool Tryz.underlying4 _), (trodAll_cons_mk (Below.trod laidOut (by kernel_rfl) (of_decide_eq_true (by kernel_rfl)) k0 bel lt0) trodAll_mk0), vr _ (var_below bel hv0), bel.frame _, fun h => by cases h⟩
theorem j0 : (Rows.fnFitsTopRow.wf (OpenSpec.ofChange Rows.fnFitsTopSpec) : Bool) = true := by kernel_rfl
theorem j3 : (Tryz.f3.params.all (Tryz.pinned.checked.prog.readableRec ·) : Bool) = true := by kernel_rfl
theorem j4 : (namedTie Tryz.pinned.checked.prog Rows.fnFitsTopRow.named Rows.fnFitsTopSpec.vars : Bool) = true := by kernel_rfl
theorem j5 : ((Rows.fnFitsTopRow.stops == []) : Bool) = true := by kernel_rfl
theorem j7 : ((Rows.fnFitsTopRow.knobs == []) : Bool) = true := by kernel_rfl
theorem j9 : ((Rows.fnFitsTopRow.inPlace == Tryz.pinned.checked.prog.inPlace 3) : Bool) = true := by kernel_rfl
theorem j10 : ((Rows.fnFitsTopRow.unfollowed == Tryz.pinned.checked.prog.unfollowed 3) : Bool) = true := by kernel_rfl
theorem j11 : ((Rows.fnFitsTopRow.recurses == Tryz.pinned.checked.prog.recurses 3) : Bool) = true := by kernel_rfl
theorem j12 : ((Rows.fnFitsTopRow.named == Tryz.pinned.checked.prog.varsNamed 3) : Bool) = true := by kernel_rfl
theorem j13 : ((Rows.fnFitsTopRow.maps == (Tryz.f3.params.toList ++ Rows.fnFitsTopSpec.plain.varTypes Tryz.pinned.checked.prog).any (Tryz.pinned.checked.prog.mapsRec ·)) : Bool) = true := by kernel_rfl
theorem j14 : ((Rows.fnFitsTopRow.ifaces == (Tryz.f3.params.toList ++ Rows.fnFitsTopSpec.plain.varTypes Tryz.pinned.checked.prog).any (Tryz.pinned.checked.prog.ifacesRec ·)) : Bool) = true := by kernel_rfl
theorem j15 : ((Rows.fnFitsTopRow.mapsOut == Tryz.pinned.checked.prog.mapsAmong Tryz.f3.resultTypes.toList) : Bool) = true := by kernel_rfl
theorem j16 : ((Rows.fnFitsTopRow.loops == (Tryz.f3.params.toList ++ Rows.fnFitsTopSpec.plain.varTypes Tryz.pinned.checked.prog).any (Tryz.pinned.checked.prog.loopsFrom ·)) : Bool) = true := by kernel_rfl
theorem j17 : ((Rows.fnFitsTopRow.wideKeys == (Tryz.f3.params.toList ++ Rows.fnFitsTopSpec.plain.varTypes Tryz.pinned.checked.prog ++ Tryz.f3.resultTypes.toList).any (Tryz.pinned.checked.prog.wideKeysFrom ·)) : Bool) = true := by kernel_rfl
theorem j18 : (Rows.fnFitsTopSpec.vars.all (Tryz.pinned.checked.prog.varReadable ·) : Bool) = true := by kernel_rfl
theorem j19 : (Tryz.f3.resultTypes.all (fun t => Tryz.pinned.checked.prog.readableRec t && decide (t < Tryz.pinned.checked.prog.types.size)) : Bool) = true := by kernel_rfl
theorem j20 : ((Rows.fnFitsTopRow.ifacesOut == Tryz.f3.resultTypes.toList.any (Tryz.pinned.checked.prog.ifacesRec ·)) : Bool) = true := by kernel_rfl
theorem j21 : ((Rows.fnFitsTopRow.loopsOut == Tryz.f3.resultTypes.toList.any (Tryz.pinned.checked.prog.loopsFrom ·)) : Bool) = true := by kernel_rfl
theorem j22 : ((Rows.fnFitsTopRow.plainKeys == Tryz.pinned.checked.prog.plainKeys) : Bool) = true := by kernel_rfl
theorem j23 : (Rows.fnFitsTopRow.shortTexts.isNone : Bool) = true := by kernel_rfl
theorem j26 : ((Rows.fnFitsTopRow.lifted == Tryz.pinned.checked.prog.liftsFinal) : Bool) = true := by kernel_rfl
theorem j27 : ((Tryz.pinned.checked.prog.make == some Rows.fnFitsTopRow.make) : Bool) = true := by kernel_rfl
theorem j29 : ((Rows.fnFitsTopRow.pinned == Rows.fnFitsTopRow.pinnedBy) : Bool) = true := by kernel_rfl
theorem j30 : ((Rows.fnFitsTopRow.veiled == (Tryz.f3.params.toList ++ Rows.fnFitsTopSpec.plain.varTypes Tryz.pinned.checked.prog ++ Tryz.f3.resultTypes.toList).any (Tryz.pinned.checked.prog.veiledRec ·)) : Bool) = true := by kernel_rfl
theorem j31 : (Rows.fnFitsTopRow.veiledFits Tryz.pinned.checked.prog Tryz.f3.params.toList (Tryz.f3.params.toList ++ Rows.fnFitsTopSpec.plain.varTypes Tryz.pinned.checked.prog ++ Tryz.f3.resultTypes.toList) : Bool) = true := by kernel_rfl
theorem named : Tryz.pinned.checked.prog.funcNamed Rows.fnFitsTopRow.func = some 3 := by kernel_rfl
theorem wrap : Tryz.f3.isWrapper Tryz.pinned.checked.prog Rows.fnFitsTopRow.wrapper Rows.fnFitsTopRow.mainSum := by unfold Func.isWrapper; first | (rw [if_pos (by decide +kernel)]; kernel_rfl) | (rw [if_neg (by decide +kernel)]; exact ⟨rfl, rfl⟩)
theorem inst : Tryz.f3.isInstance Tryz.pinned.checked.prog Rows.fnFitsTopRow.origin Rows.fnFitsTopRow.targs := of_decide_eq_true (by kernel_rfl)
set_option maxRecDepth 100000 in
theorem closed : joinedFacts Tryz.pinned.checked.prog 3 Tryz.f3 Rows.fnFitsTopSpec Rows.fnFitsTopRow = true := by
  unfold joinedFacts
  exact OfProg.andT (OfProg.andT (OfProg.andT (OfProg.andT (OfProg.andT (OfProg.andT (OfProg.andT (OfProg.andT (OfProg.andT (OfProg.andT (OfProg.andT (OfProg.andT (OfProg.andT (OfProg.andT (OfProg.andT (OfProg.andT (OfProg.andT (OfProg.andT (OfProg.andT (OfProg.andT (OfProg.andT (OfProg.andT (OfProg.andT (OfProg.andT (OfProg.andT (OfProg.andT (OfProg.andT (OfProg.andT (OfProg.andT (OfProg.andT (OfProg.andT j0 OfProg.laid) OfProg.maps) j3) j4) j5) OfProg.stops) j7) OfProg.knobs) j9) j10) j11) j12) j13) j14) j15) j16) j17) j18) j19) j20) j21) j22) j23) OfProg.heard) OfProg.enter) j26) j27) (by kernel_rfl)) j29) j30) j31
theorem over : Rows.fnFitsTopRow.holds Tryz.pinned (OpenSpec.ofChange Rows.fnFitsTopSpec) :=
  OpenClaim.holds_of_wide 3 Tryz.f3 rfl rfl rfl rfl rfl rfl rfl ⟨rfl, rfl, rfl, rfl, rfl⟩ rfl rfl rfl rfl rfl named Tryz.func3 closed inst wrap
    (fun os started H enc _ => lifted os started H enc)
theorem proved : Rows.FnFitsTopCardSaid :=
  Claim7.holds_tied_plain_at .later [] [.sentinel] true (true, "e01702c1b2e2047cea68c5c98f295124e74854b7e22fd7058e9d29bcf6e4a588") true
    over (fun _ h => by cases h) (by kernel_rfl) (fun _ h => by cases h) fnFitsTop_row_tie rfl ⟨rfl, rfl⟩ (by kernel_rfl) rfl
    (fun f fn hf hfn => by
      obtain rfl : f = 3 := Option.some.inj (named.symm.trans hf) |>.symm
      obtain rfl : fn = Tryz.f3 := (Option.some.inj (Tryz.func3.symm.trans hfn)).symm
      exact ⟨by kernel_rfl, fun j t ht => by
        rw [Tryz.params3] at ht
        have h3 : t = 22 := by
          rcases j with _ | j
          · simpa using ht.symm
          · simp at ht
        subst h3
        exact (show Tryz.prog.wantsStandIn 22 = false by kernel_rfl)⟩)
    (by kernel_rfl)
#print axioms proved
end Go.Proofs.YthkgbjpkklkppaaGreatDoor.fnFitsTop
namespace Go.Proofs.YthkgbjpkklkppaaGreatDoor
theorem fnFitsTop_holds : Rows.FnFitsTopCardSaid := fnFitsTop.proved
end Go.Proofs.YthkgbjpkklkppaaGreatDoor
