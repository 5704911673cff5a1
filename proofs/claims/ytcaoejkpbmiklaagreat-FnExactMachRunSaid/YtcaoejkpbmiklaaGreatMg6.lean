/- Part 6 of the lemmas on which the law rests: what functions of the program and of the reference do; no conditions but those that each lemma states. -/
import Derived.Test.YtcaoejkpbmiklaaGreatMg5
namespace Go.Proofs
open Go.Vc
set_option maxRecDepth 100000
set_option maxHeartbeats 4000000
theorem ifn_nil : ∀ w : World, (Go.binOp .eql 20 .nilIface .nilIface).run Tryz.prog w = .ok (.bool true) w := fun _ => by kernel_rfl
theorem ifn_some (v : Value) : ∀ w : World, (Go.binOp .eql 20 (.iface 141 v) .nilIface).run Tryz.prog w = .ok (.bool false) w := fun _ => by kernel_rfl
theorem ta_wrong (v : Value) : ∀ w : World, (Instr.typeAssert (.iface 141 v) 20 141 true).run Tryz.prog w = .ok (.tuple #[v, .bool true]) w := fun _ => by kernel_rfl
theorem try1_idle {res : List ResultVar} {R : Value → Heap → Prop} {e : Env} {p4 p5 : Nat} {h : Heap} (hx : resVals Tryz.sig e h res fun vs => oneRes (fun v => R v h) vs) :
    Trap Tryz.prog Tryz.sig res R 187 [.pointer (some ⟨p4, 0, none⟩), .pointer (some ⟨p5, 0, none⟩)] .returning e h := by
  refine trap_of Tryz.sigOk Tryz.F187 (k := 2) (v := .nilIface) (.inl ⟨rfl, rfl⟩) Tryz.func187 rfl rfl Tryz.ok187 rfl ?_
  conv => whnf
  refine raw_eq rfl rfl (fun w => by simp [eqGuard]) ifn_nil ?_
  conv => whnf
  exact hx
theorem try1_caught {res : List ResultVar} {R : Value → Heap → Prop} {e : Env} {p4 p5 : Nat} {k0 k : Int} {b0 : Bool} {t4 t5 : TypeId} {h : Heap} (h4 : h p4 = some (.cells #[.int .i64 k0] t4 (0, 0))) (h5 : h p5 = some (.cells #[.bool b0] t5 (0, 0))) (hne : p4 ≠ p5)
    (hx : ∀ h' : Heap, h' p4 = some (.cells #[.int .i64 k] t4 (0, 0)) → h' p5 = some (.cells #[.bool false] t5 (0, 0)) → (∀ b, b ≠ p4 → b ≠ p5 → h b ≠ none → h' b = h b) → resVals Tryz.sig e h' res fun vs => oneRes (fun v => R v h') vs) :
    Trap Tryz.prog Tryz.sig res R 187 [.pointer (some ⟨p4, 0, none⟩), .pointer (some ⟨p5, 0, none⟩)] (.panicking (wrongP k)) e h := by
  refine trap_of Tryz.sigOk Tryz.F187 (k := 2) (.inr rfl) Tryz.func187 rfl rfl Tryz.ok187 rfl ?_
  conv => whnf
  refine raw_eq rfl rfl (fun w => by simp [eqGuard]) (ifn_some _) ?_
  conv => whnf
  refine raw_ta rfl (ta_wrong _) ?_
  conv => whnf
  refine sth h4 [.int .i64 k] (by simp) rfl (fun h1 e1 g1 => ?_)
  conv => whnf
  refine sth (cs := [.bool b0]) (t := t5) (by rw [e1]; simp only [Heap.set, hne.symm, if_false]; exact h5) [.bool false] (by simp) rfl (fun h2 e2 g2 => ?_)
  conv => whnf
  refine hx h2 ?_ g2 (fun b hb4 hb5 _ => ?_)
  · rw [e2]; simp only [Heap.set, hne, if_false]; exact g1
  · rw [e2, e1]; simp only [Heap.set, hb4, hb5, if_false]
theorem MaH.base2 {h0 h h2 : Heap} {bm p4 p5 : Nat} {M : Mch} {B : List Nat} (hM : MaH h0 h bm [] [] M B) (hl : h.le h2) (h4 : h p4 = none) (h5 : h p5 = none) : ∃ h0' : Heap, h0.le h0' ∧ h0' p4 = h2 p4 ∧ h0' p5 = h2 p5 ∧ MaH h0' h2 bm [] [] M B := by
  obtain ⟨le, ⟨mc, t, hb, own⟩, nd, fr⟩ := hM
  have n0 : ∀ b, h b = none → h0 b = none := fun b hb => by
    cases hh : h0 b with
    | none => rfl
    | some o => rw [le b o hh] at hb; cases hb
  have hin := own.in
  refine ⟨fun b => if b = p4 ∨ b = p5 then h2 b else h0 b, fun b o hb => ?_, by simp, by simp, ?_, ⟨mc, t, hl _ _ hb, own.keep (Keep.of_le hl _)⟩, nd, fun b hb2 => ?_⟩
  · have : ¬ (b = p4 ∨ b = p5) := by
      rintro (rfl | rfl)
      · rw [n0 _ h4] at hb; cases hb
      · rw [n0 _ h5] at hb; cases hb
    simp only [this, if_false]; exact hb
  · intro b o hb
    by_cases hx : b = p4 ∨ b = p5
    · simp only [hx, if_true] at hb; exact hb
    · simp only [hx, if_false] at hb; exact hl _ _ (le _ _ hb)
  · have : ¬ (b = p4 ∨ b = p5) := by
      have hs : ∃ o, h b = some o := by
        rcases List.mem_cons.1 hb2 with rfl | hb2
        · exact ⟨_, hb⟩
        · exact hin b hb2
      obtain ⟨o, ho⟩ := hs
      rintro (rfl | rfl)
      · rw [h4] at ho; cases ho
      · rw [h5] at ho; cases ho
    simp only [this, if_false]; exact fr b hb2
theorem MaH.less {h0 h1 h : Heap} {bm : Nat} {M : Mch} {B : List Nat} (hM : MaH h1 h bm [] [] M B) (hl : h0.le h1) : MaH h0 h bm [] [] M B :=
  ⟨Heap.le_trans hl hM.le, hM.cell, hM.nd, fun b hb => by
    cases hh : h0 b with
    | none => rfl
    | some o => have := hl b o hh; rw [hM.fr b hb] at this; cases this⟩
def TryR (h0 h : Heap) (bm : Nat) (B : List Nat) : Except Int Mch → Value → Heap → Prop
  | .ok M', v, h' => v = .tuple #[.agg #[.int .i64 0], .bool true] ∧ ∃ B', MaH h0 h' bm [] [] M' B' ∧ Ev h h' (bm :: B) (bm :: B')
  | .error k, v, h' => v = .tuple #[.agg #[.int .i64 k], .bool false] ∧ Pn h0 bm h'
theorem tryStep_c (h0 h : Heap) (bm : Nat) (us : List Value) (u : Unt) (fs : List Frm) (f : Frm) (M : Mch) (B : List Nat) (r : Except Int Mch) (hr : doS u fs f M = r) (hM : MaH h0 h bm [] [] M B) (hu : UntR h0 us u) (hf : M.frames = fs ++ [f])
    (hT : UnitT u) (hI : MInv u M) (hsend : SendOk u f) :
    Rets Tryz.prog 109 [.agg ⟨us⟩, .pointer (some ⟨bm, 0, none⟩)] h (TryR h0 h bm B r) := by
  have hff : f ∈ M.frames := by rw [hf]; simp
  have hF := hI.frm f hff
  have hu0 := hu
  obtain ⟨p, cc, q, d, rfl, hcs, hms, hl1, hl2⟩ := hu.form
  refine calls_trap' Tryz.sigOk Tryz.F109 (k := 2) 3 Tryz.func109 Tryz.ok109 rfl rfl rfl rfl rfl rfl rfl rfl ?_
  conv => whnf
  refine new' [.int .i64 0] rfl (fun p4 h1 hb4 e4 l4 g4 => ?_)
  conv => whnf
  refine new' [.bool false] rfl (fun p5 h2 hb5 e5 l5 g5 => ?_)
  conv => whnf
  have hne : p4 ≠ p5 := by rintro rfl; rw [g4] at hb5; cases hb5
  have hb5' : h p5 = none := by
    cases hh : h p5 with
    | none => rfl
    | some o => rw [l4 _ _ hh] at hb5; cases hb5
  have g42 := l5 _ _ g4
  have hbase := hM.base2 (Heap.le_trans l4 l5) hb4 hb5'
  refine hbase.elim (fun h0' hb' => ?_)
  have k4 := hb'.2.1.trans g42
  have k5 := hb'.2.2.1.trans g5
  have hMt := hb'.2.2.2
  have hl0 := hb'.1
  refine call_r (newStepper_c h0' h2 bm _ u fs f M B hMt (hu0.le hl0) hf hF.meth (by have := hI.nf; omega)) (fun v h3 hn => ?_)
  refine hn.2.elim fun bs hn2 => hn2.elim fun bf hn3 => hn3.elim fun off hn4 => ?_
  have hS := hn4.2.2
  have hv := hn4.1
  subst hv
  conv => whnf
  have hdo := do_c h0' h3 bs bm bf off u fs f M B hS hT hI hsend
  rw [hr] at hdo
  refine call_o hdo (fun v h4 hh => ?_) (fun c h4 hh => ?_)
  · refine hh.elim fun M' hh2 => hh2.2.elim fun B' hh3 => ?_
    have hM4 := hh3.1
    have ev := hh3.2
    have hrM := hh2.1
    have q4 := hM4.le _ _ k4
    have q5 := hM4.le _ _ k5
    conv => whnf
    refine sth q4 [.int .i64 0] (by simp) rfl (fun h5 e5 f5 => ?_)
    conv => whnf
    refine sth (cs := [.bool false]) (t := 4) (by rw [e5]; simp only [Heap.set, hne.symm, if_false]; exact q5) [.bool true] (by simp) rfl (fun h6 e6 f6 => ?_)
    conv => whnf
    have f56 : h6 p4 = some (.cells [Value.int .i64 0].toArray 141 (0, 0)) := by rw [e6]; simp only [Heap.set, hne, if_false]; exact f5
    refine try1_idle ?_
    conv => whnf
    repeat' ((first | refine ldn (vs := [.int .i64 0]) (by simp [rdn, rd, f56]) ?_ | refine ld (rd_cells f6 rfl) ?_ | refine ob (by omega) ?_ | refine ar_in (by omega) (by omega) ?_ | refine ptr ?_) <;> conv => whnf)
    subst hrM
    have hle : h.le h3 := Heap.le_trans (Heap.le_trans l4 l5) hn.1
    have h64 : ∀ b, b ≠ p4 → b ≠ p5 → h6 b = h4 b := fun b n4 n5 => by rw [e6, e5]; simp only [Heap.set, n4, n5, if_false]
    have n45 : ∀ b o, h b = some o → b ≠ p4 ∧ b ≠ p5 := fun b o ho => ⟨(by rintro rfl; rw [hb4] at ho; cases ho), (by rintro rfl; rw [hb5'] at ho; cases ho)⟩
    have hin : ∀ b ∈ bm :: B', h6 b = h4 b := fun b hb => h64 b (by rintro rfl; have := hM4.fr b hb; rw [k4] at this; cases this) (by rintro rfl; have := hM4.fr b hb; rw [k5] at this; cases this)
    obtain ⟨le4, ⟨mc, tm, hbm, own⟩, nd4, fr4⟩ := hM4
    refine ⟨rfl, B', ⟨fun b o ho => ?_, ⟨mc, tm, by rw [hin bm (by simp)]; exact hbm, own.keep fun b hb o ho => by rw [hin b (by simp [hb])]; exact ho⟩, nd4, fun b hb => ?_⟩, fun b hb hn1 => ?_, fun b hb => ?_⟩
    · rw [h64 b (n45 b o (hM.le b o ho)).1 (n45 b o (hM.le b o ho)).2]; exact le4 _ _ (hl0 _ _ ho)
    · cases hh : h0 b with
      | none => rfl
      | some o => have := hl0 b o hh; rw [fr4 b hb] at this; cases this
    · cases ho : h b with
      | none => exact absurd ho hb
      | some o => rw [h64 b (n45 b o ho).1 (n45 b o ho).2, ev.old b (by rw [hle b o ho]; simp) hn1, hle b o ho]
    · refine (ev.new b hb).imp id fun hb3 => ?_
      cases ho : h b with
      | none => rfl
      | some o => rw [hle b o ho] at hb3; cases hb3
  · refine hh.elim fun k hh2 => ?_
    have hrk := hh2.1
    have hck := hh2.2.1
    have hle := hh2.2.2.1
    have hrow := hh2.2.2.2
    subst hrk
    subst hck
    conv => whnf
    refine try1_caught (hle _ _ k4) (hle _ _ k5) hne (fun h5 f4 f5 keep => ?_)
    conv => whnf
    repeat' ((first | refine ldn (vs := [.int .i64 k]) (by simp [rdn, rd, f4]) ?_ | refine ld (rd_cells f5 rfl) ?_ | refine ob (by omega) ?_ | refine ar_in (by omega) (by omega) ?_ | refine ptr ?_) <;> conv => whnf)
    refine ⟨rfl, fun b o ho => ?_, ?_⟩
    · have n4 : b ≠ p4 := by rintro rfl; have := hM.le b o ho; rw [hb4] at this; cases this
      have n5 : b ≠ p5 := by rintro rfl; have := hM.le b o ho; rw [hb5'] at this; cases this
      have h4b := hle _ _ (hl0 _ _ ho)
      rw [keep b n4 n5 (by rw [h4b]; simp)]; exact h4b
    · obtain ⟨mcs, tm, hbm, hlen⟩ := hrow
      obtain ⟨o, ho⟩ := hM.in bm (by simp)
      have n4 : bm ≠ p4 := by rintro rfl; rw [hb4] at ho; cases ho
      have n5 : bm ≠ p5 := by rintro rfl; rw [hb5'] at ho; cases ho
      exact ⟨mcs, tm, by rw [keep bm n4 n5 (by rw [hbm]; simp)]; exact hbm, hlen⟩
end Go.Proofs
namespace Go.Proofs
open Go.Vc
set_option maxRecDepth 100000
set_option maxHeartbeats 4000000
def stepS (u : Unt) (M : Mch) : Mch :=
  if M.fin ≠ 0 ∨ 200 ≤ M.steps ∨ 200 ≤ M.said.length ∨ 207 ≤ M.objs.length then M
  else match M.frames.getLast? with
    | none => M
    | some f => match doS u M.frames.dropLast f M with
      | .ok M' => { M' with steps := M'.steps + 1 }
      | .error k => if k = 0 then { M with fin := 3, steps := M.steps + 1 } else { throwS u k M with steps := (throwS u k M).steps + 1 }
theorem stepS_app {u : Unt} {M : Mch} {fs : List Frm} {f : Frm} (hf : M.frames = fs ++ [f]) (hg : ¬ (M.fin ≠ 0 ∨ 200 ≤ M.steps ∨ 200 ≤ M.said.length ∨ 207 ≤ M.objs.length)) : stepS u M = match doS u fs f M with
      | .ok M' => { M' with steps := M'.steps + 1 }
      | .error k => if k = 0 then { M with fin := 3, steps := M.steps + 1 } else { throwS u k M with steps := (throwS u k M).steps + 1 } := by
  unfold stepS
  rw [if_neg hg, hf]
  simp
structure StepOk (u : Unt) (M : Mch) : Prop where
  inv : MInv u M
  frm : M.fin = 0 → M.frames ≠ []
  send : ∀ f ∈ M.frames, SendOk u f
  fault : ∀ fs f k, M.frames = fs ++ [f] → doS u fs f M = .error k → k = 0 ∨ 0 < k ∧ k ≤ 7
  cls : ∀ k, 0 < k → k ≤ 7 → (objN M.objs k).cls < u.classes.length
  steps : 0 ≤ M.steps ∧ M.steps ≤ 200
  steps' : ∀ fs f M', M.frames = fs ++ [f] → doS u fs f M = .ok M' → M'.steps = M.steps
theorem mcells_rdn {h : Heap} {bm : Nat} {t : TypeId} {vo vf vs : Value} {M : Mch} (hb : h bm = some (.cells ([] ++ mcells vo vf vs M ++ []).toArray t (0, 0))) : rdn h bm 0 7 = some (mcells vo vf vs M) := by
  rw [rdn_cells hb 7 0 (by simp [mcells])]
  simp [mcells]
def msl (po : Option Addr) (co : Nat) (pf : Option Addr) (cf : Nat) (ps : Option Addr) (cs : Nat) (M : Mch) : List Value := mcells (.slice po M.objs.length co) (.slice pf M.frames.length cf) (.slice ps M.said.length cs) M
theorem OwnM.msl {h : Heap} {mc : List Value} {M : Mch} {B : List Nat} (ho : OwnM h mc M B) : ∃ po co pf cf ps cs, mc = msl po co pf cf ps cs M := by
  obtain ⟨vo, vf, vs, B1, B2, B3, rfl, k1, k2, k3, rfl⟩ := ho
  obtain ⟨po, co, rfl, _⟩ := k1.form
  obtain ⟨pf, cf, rfl, _⟩ := k2.form
  obtain ⟨ps, cs, e, _⟩ := k3.form
  exact ⟨po, co, pf, cf, ps, cs, by subst e; simp [Go.Proofs.msl, mcells]⟩
theorem machClone_m (mc : List Value) (M : Mch) (h : Heap) (hr : MchR h mc M) :
    Rets Tryz.prog 108 [.agg ⟨mc⟩] h fun v h' => ∃ po co pf cf ps cs B, v = .agg ⟨msl po co pf cf ps cs M⟩ ∧ OwnM h' (msl po co pf cf ps cs M) M B ∧ Nd B ∧ (∀ b ∈ B, h b = none) ∧ h.le h' :=
  (machClone_c mc M h hr).mono fun v h' ⟨hl, mc', B, e, own, nd, fr⟩ => by
    obtain ⟨po, co, pf, cf, ps, cs, e2⟩ := own.msl
    subst e2
    exact ⟨po, co, pf, cf, ps, cs, B, e, own, nd, fr, hl⟩
theorem MaH.made {h h1 h2 : Heap} {mc : List Value} {M : Mch} {B : List Nat} {bm : Nat} {t : TypeId} (own : OwnM h1 mc M B) (nd : Nd B) (fr : ∀ b ∈ B, h b = none) (hl : h.le h1) (hb : h1 bm = none) (hl2 : h1.le h2) (hg : h2 bm = some (.cells mc.toArray t (0, 0))) : MaH h h2 bm [] [] M B := by
  have hn : bm ∉ B := fun hx => by
    obtain ⟨o, ho⟩ := own.in bm hx
    rw [hb] at ho; cases ho
  refine ⟨Heap.le_trans hl hl2, ⟨mc, t, by simpa using hg, own.keep (Keep.of_le hl2 _)⟩, ?_, fun b hx => ?_⟩
  · intro a
    have := nd a
    by_cases ha : bm = a
    · subst ha
      simp [List.count_eq_zero.2 hn]
    · simp [ha]; exact this
  · rcases List.mem_cons.1 hx with rfl | hx
    · cases hh : h b with
      | none => rfl
      | some o => rw [hl b o hh] at hb; cases hb
    · exact fr b hx
theorem MaH.made2 {h h4 h5 h6 : Heap} {mc : List Value} {M : Mch} {B : List Nat} {bm : Nat} {t : TypeId} {o : Obj} (own : OwnM h5 mc M B) (nd : Nd B) (fr : ∀ b ∈ B, h4 b = none) (hl : h.le h4) (hl5 : h4.le h5) (hb : h4 bm = some o) (hn : h bm = none) (hg : h6 bm = some (.cells mc.toArray t (0, 0)))
    (keep : ∀ b, b ≠ bm → h6 b = h5 b) : MaH h h6 bm [] [] M B := by
  have hnb : bm ∉ B := fun hx => by have := fr bm hx; rw [hb] at this; cases this
  refine ⟨fun b x hx => ?_, ⟨mc, t, by simpa using hg, own.keep fun b hb2 o ho => ?_⟩, ?_, fun b hx => ?_⟩
  · have : b ≠ bm := by rintro rfl; rw [hn] at hx; cases hx
    rw [keep b this]; exact hl5 _ _ (hl _ _ hx)
  · have : b ≠ bm := by rintro rfl; exact hnb hb2
    rw [keep b this]; exact ho
  · intro a
    have := nd a
    by_cases ha : bm = a
    · subst ha
      simp [List.count_eq_zero.2 hnb]
    · simp [ha]; exact this
  · rcases List.mem_cons.1 hx with rfl | hx
    · exact hn
    · cases hh : h b with
      | none => rfl
      | some o => have := fr b hx; rw [hl _ _ hh] at this; cases this
theorem wrls_full {cs vs : List Value} (h : vs.length = cs.length) : wrls cs 0 vs = vs := by
  have := wr_all (pre := []) (x := cs) (x' := vs) (post := []) (n := 0) rfl h
  simpa using this
theorem MaH.out {h0 h : Heap} {bm : Nat} {M : Mch} {B : List Nat} (hM : MaH h0 h bm [] [] M B) : ∃ po co pf cf ps cs, rdn h bm 0 7 = some (msl po co pf cf ps cs M) ∧ OwnM h (msl po co pf cf ps cs M) M B ∧ Nd B ∧ ∀ b ∈ B, h0 b = none := by
  obtain ⟨le, ⟨mc, t, hb, own⟩, nd, fr⟩ := hM
  obtain ⟨po, co, pf, cf, ps, cs, rfl⟩ := own.msl
  exact ⟨po, co, pf, cf, ps, cs, mcells_rdn hb, own, nd.less fun a => by simp only [List.count_cons]; omega, fun b hx => fr b (List.mem_cons_of_mem _ hx)⟩
theorem machStep_c (mc us : List Value) (u : Unt) (M : Mch) (h : Heap) (hr : MchR h mc M) (hu : UntR h us u) (hT : UnitT u) (hI : M.fin = 0 → StepOk u M) :
    Rets Tryz.prog 49 [.agg ⟨us⟩, .agg ⟨mc⟩] h fun v h' => h.le h' ∧ ∃ mc' B, v = .agg ⟨mc'⟩ ∧ OwnM h' mc' (stepS u M) B ∧ Nd B ∧ ∀ b ∈ B, h b = none := by
  have hr0 := hr
  have hclone := machClone_m mc M h hr
  have hu0 := hu
  obtain ⟨p, cc, q, d, rfl, hcs, hms, hl1, hl2⟩ := hu.form
  obtain ⟨vo, vf, vs, rfl, s1, s2, ho, hf, hs⟩ := hr
  obtain ⟨po, co, rfl, _, _⟩ := ho.len
  obtain ⟨pf, cf, rfl, _, _⟩ := hf.len
  obtain ⟨ps, cs, hvs⟩ : ∃ p c, vs = .slice p M.said.length c := by
    obtain ⟨_, _, p, c, e, _⟩ := hs
    exact ⟨p, c, by simpa using e⟩
  subst hvs
  by_cases hg : M.fin ≠ 0 ∨ 200 ≤ M.steps ∨ 200 ≤ M.said.length ∨ 207 ≤ M.objs.length
  · have hstep : stepS u M = M := by unfold stepS; rw [if_pos hg]
    rw [hstep]
    refine rets Tryz.sigOk Tryz.func49 Tryz.F49 Tryz.ok49 rfl ?_
    conv => whnf
    repeat' ((first | refine selPt (by omega) ?_ | refine selPf (by omega) ?_ | refine selNPt (by omega) ?_ | refine selNPf (by omega) ?_ | refine selP (fun _ => ?_) (fun _ => ?_) | refine selNP (fun _ => ?_) (fun _ => ?_)) <;> conv => whnf)
    all_goals first
      | (exfalso; omega)
      | (refine call_r hclone (fun v h1 hc => ?_)
         refine hc.elim fun po' hc => hc.elim fun co' hc => hc.elim fun pf' hc => hc.elim fun cf' hc => hc.elim fun ps' hc => hc.elim fun cs' hc => hc.elim fun B hc => ?_
         have hv := hc.1
         subst hv
         conv => whnf
         exact ⟨hc.2.2.2.2, _, B, rfl, hc.2.1, hc.2.2.1, hc.2.2.2.1⟩)
  have hfin : M.fin = 0 := by omega
  have hok := hI hfin
  refine rets Tryz.sigOk Tryz.func49 Tryz.F49 Tryz.ok49 rfl ?_
  conv => whnf
  repeat' ((first | refine selPt (by omega) ?_ | refine selPf (by omega) ?_ | refine selNPt (by omega) ?_ | refine selNPf (by omega) ?_) <;> conv => whnf)
  have hdoR : ∃ fs f, M.frames = fs ++ [f] := by
    rcases List.eq_nil_or_concat M.frames with e | ⟨gs, gl, e⟩
    · exact absurd e (hok.frm hfin)
    · exact ⟨gs, gl, by simpa using e⟩
  refine hdoR.elim fun fs hdoR => hdoR.elim fun f hfr => ?_
  have hstep := stepS_app (u := u) hfr hg
  have htry := fun (h2 : Heap) (bm : Nat) (B : List Nat) (r : Except Int Mch) (hr : doS u fs f M = r) (hM : MaH h h2 bm [] [] M B) => tryStep_c h h2 bm _ u fs f M B r hr hM hu0 hfr hT hok.inv (hok.send f (by rw [hfr]; simp))
  have hflt := hok.fault fs f
  have hstp := hok.steps' fs f
  have hmeth : ∀ g ∈ M.frames, 0 ≤ g.meth ∧ g.meth < u.methods.length := fun g hgm => (hok.inv.frm g hgm).meth
  have hlen7 := hok.inv.len
  have hnf := hok.inv.nf
  have hst := hok.steps
  generalize hdo : doS u fs f M = r at hstep htry hflt hstp
  refine call_r hclone (fun v h1 hc => ?_)
  refine hc.elim fun po' hc => hc.elim fun co' hc => hc.elim fun pf' hc => hc.elim fun cf' hc => hc.elim fun ps' hc => hc.elim fun cs' hc => hc.elim fun B hc => ?_
  have hv := hc.1
  subst hv
  have own := hc.2.1
  have ndB := hc.2.2.1
  have frB := hc.2.2.2.1
  have l1 := hc.2.2.2.2
  conv => whnf
  refine new' [.slice none 0 0, .slice none 0 0, .slice none 0 0, .int .i64 0, .int .i64 0, .bool false, .int .i64 0] rfl (fun bm h2 hb2 e2 l2 g2 => ?_)
  conv => whnf
  refine sth g2 (msl po' co' pf' cf' ps' cs' M) (by simp) rfl (fun h3 e3 g3 => ?_)
  have l3 : h1.le h3 := by
    intro b o hb
    have hne : b ≠ bm := by rintro rfl; rw [hb2] at hb; cases hb
    rw [e3]; simp only [Heap.set, hne, if_false]
    exact l2 b o hb
  have hM3 : MaH h h3 bm [] [] M B := MaH.made own ndB frB l1 hb2 l3 g3
  conv => whnf
  refine call_r (htry h3 bm B r rfl hM3) (fun v h4 hv => ?_)
  cases r with
  | ok M' =>
    refine hv.2.elim fun B' hv2 => ?_
    have hv1 := hv.1
    subst hv1
    have hM4 := hv2.1
    have ev4 := hv2.2
    have hs' := hstp M' hfr rfl
    have hints := hM4.ints
    obtain ⟨t, vo', vf', vs', hbm, _, _, _, reb⟩ := hints
    have s3 := reb { M' with steps := M'.steps + 1 } rfl rfl rfl
    have r3 : rd h4 bm 3 = some (.int .i64 M'.steps) := rd_mid hbm (i := 3) rfl rfl
    conv => whnf
    refine ld r3 ?_
    conv => whnf
    refine ar_in (by omega) (by omega) ?_
    conv => whnf
    refine st1h hbm (i := 3) (mcells vo' vf' vs' { M' with steps := M'.steps + 1 }) rfl (by simp [mcells]) (by rfl) (fun h5 e5 g5 => ?_)
    rw [← e5] at s3
    obtain ⟨po5, co5, pf5, cf5, ps5, cs5, rd5, own5, nd5, fr5⟩ := s3.1.out
    conv => whnf
    refine ldn rd5 ?_
    conv => whnf
    rw [hstep]
    exact ⟨s3.1.le, _, B', rfl, own5, nd5, fr5⟩
  | error k =>
    have hv1 := hv.1
    subst hv1
    have l4 : h.le h4 := hv.2.1
    have hrow := hv.2.2
    have hk7 := hflt k hfr rfl
    conv => whnf
    refine call_r (machClone_m _ M h4 (hr0.le l4)) (fun v h5 hc => ?_)
    refine hc.elim fun po2 hc => hc.elim fun co2 hc => hc.elim fun pf2 hc => hc.elim fun cf2 hc => hc.elim fun ps2 hc => hc.elim fun cs2 hc => hc.elim fun B2 hc => ?_
    have hv := hc.1
    subst hv
    have own2 := hc.2.1
    have nd2 := hc.2.2.1
    have fr2 := hc.2.2.2.1
    have l5 := hc.2.2.2.2
    refine hrow.elim fun ws hrow => hrow.elim fun tb hrow => ?_
    have hws := hrow.1
    have hwl := hrow.2
    have hnb : h bm = none := by
      cases hh : h bm with
      | none => rfl
      | some o => rw [l1 _ _ hh] at hb2; cases hb2
    conv => whnf
    refine sth (l5 _ _ hws) (msl po2 co2 pf2 cf2 ps2 cs2 M) (by rw [hwl]; exact Nat.le_refl 7) (wrls_full (by rw [hwl]; rfl)) (fun h6 e6 g6 => ?_)
    have hM6 : MaH h h6 bm [] [] M B2 := MaH.made2 own2 nd2 fr2 l4 l5 hws hnb g6 (fun b hb => by rw [e6]; simp only [Heap.set, hb, if_false])
    conv => whnf
    refine selP (fun gk => ?_) (fun gk => ?_)
    all_goals conv => whnf
    · subst gk
      obtain ⟨t, vo', vf', vs', hbm, _, _, _, reb⟩ := hM6.ints
      have s3 := (reb { M with fin := 3 } rfl rfl rfl).1
      refine st1h hbm (i := 4) (mcells vo' vf' vs' { M with fin := 3 }) rfl (by simp [mcells]) (by rfl) (fun h7 e7 g7 => ?_)
      rw [← e7] at s3
      obtain ⟨t', vo2, vf2, vs2, hbm2, _, _, _, reb2⟩ := s3.ints
      have s4 := (reb2 { M with fin := 3, steps := M.steps + 1 } rfl rfl rfl).1
      have r3 : rd h7 bm 3 = some (.int .i64 M.steps) := rd_mid hbm2 (i := 3) rfl rfl
      conv => whnf
      refine ld r3 ?_
      conv => whnf
      refine ar_in (by omega) (by omega) ?_
      conv => whnf
      refine st1h hbm2 (i := 3) (mcells vo2 vf2 vs2 { M with fin := 3, steps := M.steps + 1 }) rfl (by simp [mcells]) (by rfl) (fun h8 e8 g8 => ?_)
      rw [← e8] at s4
      obtain ⟨po5, co5, pf5, cf5, ps5, cs5, rd5, own5, nd5, fr5⟩ := s4.out
      conv => whnf
      refine ldn rd5 ?_
      conv => whnf
      rw [hstep]
      exact ⟨s4.le, _, B2, rfl, own5, nd5, fr5⟩
    · have hk1 : 0 < k ∧ k ≤ 7 := hk7.resolve_left gk
      refine call_r (throwThing_c h h6 bm _ u M B2 k hM6 hu0 hT.1 (by omega) (by omega) (by omega) (hok.cls k hk1.1 hk1.2) hmeth) (fun v h7 hv => ?_)
      refine hv.elim fun B7 hv => ?_
      have hM7 := hv.1
      obtain ⟨t', vo2, vf2, vs2, hbm2, _, _, _, reb2⟩ := hM7.ints
      have s4 := (reb2 { throwS u k M with steps := (throwS u k M).steps + 1 } rfl rfl rfl).1
      have hst2 : (throwS u k M).steps = M.steps := by unfold throwS; split <;> rfl
      have r3 : rd h7 bm 3 = some (.int .i64 (throwS u k M).steps) := rd_mid hbm2 (i := 3) rfl rfl
      conv => whnf
      refine ld r3 ?_
      conv => whnf
      refine ar_in (by omega) (by omega) ?_
      conv => whnf
      refine st1h hbm2 (i := 3) (mcells vo2 vf2 vs2 { throwS u k M with steps := (throwS u k M).steps + 1 }) rfl (by simp [mcells]) (by rfl) (fun h8 e8 g8 => ?_)
      rw [← e8] at s4
      obtain ⟨po5, co5, pf5, cf5, ps5, cs5, rd5, own5, nd5, fr5⟩ := s4.out
      conv => whnf
      refine ldn rd5 ?_
      conv => whnf
      have hst3 : stepS u M = { throwS u k M with steps := (throwS u k M).steps + 1 } := hstep.trans (if_neg gk)
      rw [hst3]
      exact ⟨s4.le, _, B7, rfl, own5, nd5, fr5⟩
end Go.Proofs
namespace Go.Proofs
open Go.Vc
set_option maxRecDepth 100000
set_option maxHeartbeats 4000000
theorem up_trans {cs : List Cls} (ok : CsOk cs) : ∀ (k : Nat) {a b c : Int}, a.toNat < k → a < cs.length → up cs a b = true → up cs b c = true → up cs a c = true
  | 0, a, b, c, h, _, _, _ => by omega
  | k + 1, a, b, c, h, hl, h1, h2 => by
    have h0 := up_pos h1
    rw [up_step ok h0 hl] at h1 ⊢
    by_cases hab : a = b
    · subst hab
      rw [up_step ok h0 hl] at h2; exact h2
    · have hs := ok.super h0 hl
      simp only [hab, decide_false, Bool.false_or] at h1
      by_cases hac : a = c
      · simp [hac]
      · simp only [hac, decide_false, Bool.false_or]
        exact up_trans ok k (by have := up_pos h1; omega) (by omega) h1 h2
theorem up_le {cs : List Cls} (ok : CsOk cs) {a b : Int} (hl : a < cs.length) (h : up cs a b = true) : b ≤ a := by
  rcases Int.lt_or_le a b with hb | hb
  · rw [up_low ok (a.toNat + 1) (by omega) hl hb] at h; cases h
  · exact hb
theorem up_nonneg {cs : List Cls} (ok : CsOk cs) : ∀ (k : Nat) {a b : Int}, a.toNat < k → a < cs.length → up cs a b = true → 0 ≤ b
  | 0, a, b, h, _, _ => by omega
  | k + 1, a, b, h, hl, h1 => by
    have h0 := up_pos h1
    rw [up_step ok h0 hl] at h1
    by_cases hab : a = b
    · omega
    · have hs := ok.super h0 hl
      simp only [hab, decide_false, Bool.false_or] at h1
      exact up_nonneg ok k (by have := up_pos h1; omega) (by omega) h1
theorem ownM_is {c s : Int} : ∀ (l : List Mth) (k : Int), 0 ≤ k → ownM c s l k = -1 ∨ ∃ i, ∃ hi : i < l.length, ownM c s l k = k + i ∧ l[i].cls = c ∧ l[i].sel = s
  | [], k, _ => .inl rfl
  | m :: r, k, hk => by
    rw [ownM]
    split
    · rename_i h
      exact .inr ⟨0, by simp, by simp, h.1, h.2⟩
    · rcases ownM_is (c := c) (s := s) r (k + 1) (by omega) with h | ⟨i, hi, h1, h2, h3⟩
      · exact .inl h
      · exact .inr ⟨i + 1, by simpa using hi, by rw [h1]; omega, by simpa using h2, by simpa using h3⟩
theorem ownM_mth {u : Unt} {c s : Int} (h : 0 ≤ ownM c s u.methods 0) : ownM c s u.methods 0 < u.methods.length ∧ (mth u (ownM c s u.methods 0)).cls = c ∧ (mth u (ownM c s u.methods 0)).sel = s := by
  rcases ownM_is (c := c) (s := s) u.methods 0 (by omega) with e | ⟨i, hi, e, h2, h3⟩
  · omega
  · have e' : ownM c s u.methods 0 = (i : Int) := by omega
    rw [e', mth_eq hi rfl]
    exact ⟨by omega, h2, h3⟩
theorem find_is {u : Unt} (ok : CsOk u.classes) {s : Int} : ∀ (k : Nat) {c : Int}, c.toNat < k → c < u.classes.length → 0 ≤ find u c s → up u.classes c (mth u (find u c s)).cls = true ∧ (mth u (find u c s)).sel = s ∧ find u c s < u.methods.length
  | 0, c, h, _, _ => by omega
  | k + 1, c, h, hl, hf => by
    rcases Int.lt_or_le c 0 with h0 | h0
    · rw [find_neg h0] at hf; omega
    · have hs := ok.super h0 hl
      by_cases ho : 0 ≤ ownM c s u.methods 0
      · rw [find_own h0 ho]
        obtain ⟨h1, h2, h3⟩ := ownM_mth ho
        exact ⟨by rw [h2]; exact up_refl ok h0 hl, h3, h1⟩
      · rw [find_up ok h0 hl (by omega)] at hf ⊢
        rcases Int.lt_or_le (superOf u.classes c) 0 with h4 | h4
        · rw [find_neg h4] at hf; omega
        · obtain ⟨h1, h2, h3⟩ := find_is ok k (c := superOf u.classes c) (by omega) (by omega) hf
          exact ⟨by rw [up_step ok h0 hl, h1]; simp, h2, h3⟩
theorem find_down {u : Unt} (hu : UnitT u) {s a : Int} (ha : a < u.classes.length) (hf : 0 ≤ find u a s) : ∀ (k : Nat) {c : Int}, c.toNat < k → c < u.classes.length → up u.classes c a = true →
    0 ≤ find u c s ∧ (mth u (find u c s)).args = (mth u (find u a s)).args ∧ (mth u (find u c s)).out = (mth u (find u a s)).out
  | 0, c, h, _, _ => by omega
  | k + 1, c, h, hl, hup => by
    have ok := hu.1
    have h0 := up_pos hup
    have hs := ok.super h0 hl
    have hup0 := hup
    rw [up_step ok h0 hl] at hup
    by_cases hca : c = a
    · subst hca; exact ⟨hf, rfl, rfl⟩
    · simp only [hca, decide_false, Bool.false_or] at hup
      by_cases ho : 0 ≤ ownM c s u.methods 0
      · rw [find_own h0 ho]
        obtain ⟨h1, h2, h3⟩ := ownM_mth ho
        obtain ⟨k1, k2, k3⟩ := find_is ok (a.toNat + 1) (by omega) ha hf
        refine ⟨ho, ?_⟩
        generalize hi : ownM c s u.methods 0 = i at *
        generalize hj : find u a s = j at *
        have hi' : i.toNat < u.methods.length := by omega
        have hj' : j.toNat < u.methods.length := by omega
        have ei := mth_eq (n := i) hi' (by omega)
        have ej := mth_eq (n := j) hj' (by omega)
        by_cases hij : i = j
        · subst hij; exact ⟨rfl, rfl⟩
        · have hp := hu.2.2.2.2 i.toNat j.toNat hi' hj' (by omega)
          rw [← ei, ← ej] at hp
          have hcj : 0 ≤ (mth u j).cls := up_nonneg ok (a.toNat + 1) (by omega) ha k1
          have := (hp (by omega) hcj (by rw [h3, k2])).2 (by rw [h2]; exact up_trans ok (c.toNat + 1) (by omega) hl hup0 k1)
          exact ⟨this.2, this.1⟩
      · rw [find_up ok h0 hl (by omega)]
        exact find_down hu ha hf k (by have := up_pos hup; omega) (by omega) hup
theorem UnitT.mth {u : Unt} (hu : UnitT u) {k : Int} (h : 0 ≤ k ∧ k < u.methods.length) : MethT u (mth u k) := hu.2.2.2.1 _ (mth_mem h)
theorem findOwn_cls {u : Unt} (ok : CsOk u.classes) {s c : Int} (hl : c < u.classes.length) (hf : 0 ≤ find u c s) : 0 ≤ (mth u (find u c s)).cls :=
  up_nonneg ok (c.toNat + 1) (by omega) hl (find_is ok (c.toNat + 1) (by omega) hl hf).1
theorem given_len {m : Mth} : (givenL m).length = (if 0 ≤ m.cls then 1 else 0) + m.args.length := by
  unfold givenL; split <;> simp <;> omega
theorem sendOk_of {u : Unt} (hu : UnitT u) {f : Frm} (hm : 0 ≤ f.meth ∧ f.meth < u.methods.length) : SendOk u f := by
  intro x took rest c hx hk ht hc hup
  have hxT := (hu.mth hm).2.1.2.2.2.1 x hx
  obtain ⟨kind, a, b⟩ := x
  simp only at hk
  subst hk
  have ha := (InsT_iff (p := 5) (q := 9) rfl).1 hxT
  simp [OperT] at ha
  obtain ⟨ws, hws, hlen, _, _⟩ := takeS_spec ht
  simp [seesL] at hws
  have hfa := hws.1
  obtain ⟨h1, h2, h3⟩ := find_down hu (s := b) (a := a) (by omega) (by omega) (c.toNat + 1) (by omega) hc hup
  obtain ⟨k1, k2, k3⟩ := find_is hu.1 (s := b) (c.toNat + 1) (c := c) (by omega) hc h1
  have hmt := (hu.mth ⟨h1, k3⟩).1
  have hcl := findOwn_cls hu.1 hc h1
  have hgl := hmt.2.2.2.2.2
  rw [given_len, if_pos hcl] at hgl
  refine ⟨h1, ?_, hmt.2.2.2.2.1⟩
  rw [hlen, ← hws.2]
  simp only [List.length_cons, List.length_replicate]
  rw [← h2]
  omega
def VlW (n : Nat) (v : Vl) : Prop := (v.ref = true → 0 ≤ v.n ∧ v.n ≤ n) ∧ (v.ref = false → isWord v.n = true)
def ObW (u : Unt) (n : Nat) (o : Ob) : Prop := (∀ v ∈ o.vals, VlW n v) ∧ (((o.cls = -1 ∨ o.cls = -2) ∧ o.vals.length ≤ 6) ∨ (0 ≤ o.cls ∧ o.cls < u.classes.length ∧ o.vals.length = (flds u.classes o.cls).length))
def FrW (u : Unt) (n : Nat) (f : Frm) : Prop := (0 ≤ f.meth ∧ f.meth < u.methods.length) ∧ (0 ≤ f.pc ∧ f.pc ≤ (mth u f.meth).code.length) ∧ (f.locals.length : Int) = (mth u f.meth).locals ∧ f.stack.length ≤ 4 ∧ (∀ v ∈ f.locals, VlW n v) ∧ ∀ v ∈ f.stack, VlW n v
def EndW (M : Mch) : Prop := ((M.fin = 0 ∨ M.fin = 3) ∧ M.frames ≠ [] ∧ M.out = noVl) ∨ (M.fin = 1 ∧ M.frames = []) ∨ (M.fin = 2 ∧ M.frames = [] ∧ M.out.ref = true ∧ 1 ≤ M.out.n)
structure MOk (u : Unt) (M : Mch) : Prop where
  steps : 0 ≤ M.steps ∧ M.steps ≤ 200
  len : 7 ≤ M.objs.length ∧ M.objs.length ≤ 207
  nf : M.frames.length ≤ 4
  nsaid : M.said.length ≤ 200
  out : VlW M.objs.length M.out
  objs : ∀ o ∈ M.objs, ObW u M.objs.length o
  low : ∀ k, 0 < k → k ≤ 7 → (objN M.objs k).cls = 1
  frm : ∀ f ∈ M.frames, FrW u M.objs.length f
  said : ∀ n ∈ M.said, isWord n = true
  fin : EndW M
theorem VlW.mono {n m : Nat} {v : Vl} (h : VlW n v) (hl : n ≤ m) : VlW m v := ⟨fun hr => by have := h.1 hr; omega, h.2⟩
theorem ObW.mono {u : Unt} {n m : Nat} {o : Ob} (h : ObW u n o) (hl : n ≤ m) : ObW u m o := ⟨fun v hv => (h.1 v hv).mono hl, h.2⟩
theorem FrW.mono {u : Unt} {n m : Nat} {f : Frm} (h : FrW u n f) (hl : n ≤ m) : FrW u m f := ⟨h.1, h.2.1, h.2.2.1, h.2.2.2.1, fun v hv => (h.2.2.2.2.1 v hv).mono hl, fun v hv => (h.2.2.2.2.2 v hv).mono hl⟩
theorem MOk.inv {u : Unt} {M : Mch} (h : MOk u M) : MInv u M where
  objs o ho := by
    rcases (h.objs o ho).2 with ⟨h1, h2⟩ | ⟨h1, h2, h3⟩
    · exact ⟨by omega, fun h3 => by omega⟩
    · exact ⟨by omega, fun _ => h3⟩
  len := ⟨h.len.1, by have := h.len.2; omega⟩
  vals o ho v hv := ((h.objs o ho).1 v hv).1
  frm g hg := by
    obtain ⟨h1, h2, h3, h4, h5, h6⟩ := h.frm g hg
    exact ⟨h1, h2, h3, h4, fun v hv => (h5 v hv).1, fun v hv => (h6 v hv).1⟩
  nf := h.nf
  said := by have := h.nsaid; omega
structure GW (u : Unt) (objs : List Ob) (f : Frm) : Prop where
  len : 7 ≤ objs.length
  obs : ∀ o ∈ objs, ObW u objs.length o
  low : ∀ k, 0 < k → k ≤ 7 → (objN objs k).cls = 1
  frm : FrW u objs.length f
theorem pushS_W {u : Unt} {objs o' : List Ob} {f f' : Frm} {v : Vl} (h : GW u objs f) (hv : VlW objs.length v) (hp : pushS objs f v = .ok (o', f')) : o' = objs ∧ GW u o' f' ∧ f'.meth = f.meth ∧ f'.pc = f.pc ∧ f'.locals = f.locals ∧ f'.stack = f.stack ++ [v] := by
  unfold pushS at hp
  split at hp
  · simp only [Except.ok.injEq, Prod.mk.injEq] at hp
    obtain ⟨rfl, rfl⟩ := hp
    obtain ⟨h1, h2, h3, h4, h5, h6⟩ := h.frm
    refine ⟨rfl, ⟨h.len, h.obs, h.low, h1, h2, h3, by simp; omega, h5, fun w hw => ?_⟩, rfl, rfl, rfl, rfl⟩
    simp only [List.mem_append, List.mem_singleton] at hw
    rcases hw with hw | rfl
    · exact h6 w hw
    · exact hv
  · cases hp
theorem objN_app {objs : List Ob} {o : Ob} {k : Int} (h : 0 < k) (hl : k ≤ objs.length) : objN (objs ++ [o]) k = objN objs k := by
  have hi : (k - 1).toNat < objs.length := by omega
  unfold objN
  simp only [List.getD_eq_getElem?_getD, List.getElem?_append_left hi]
theorem word_W {n : Nat} {k : Int} (h : -128 ≤ k ∧ k ≤ 127) : VlW n ⟨false, k⟩ := ⟨fun hr => (by cases hr), fun _ => isWord_iff.2 h⟩
theorem nothing_W (n : Nat) (t : Int) : VlW n (nothing t) := by
  unfold nothing VlW
  refine ⟨fun _ => by simp, fun _ => by show isWord 0 = true; decide⟩
theorem addS_W {u : Unt} {objs o' : List Ob} {f f' : Frm} {k : Int} {types : List Int} (h : GW u objs f) (hc : ((k = -1 ∨ k = -2) ∧ types.length ≤ 6) ∨ (0 ≤ k ∧ k < u.classes.length ∧ types.length = (flds u.classes k).length))
    (hp : addS k types objs f = .ok (o', f')) : o' = objs ++ [⟨k, types.map nothing⟩] ∧ GW u o' f' ∧ f'.meth = f.meth ∧ f'.pc = f.pc := by
  unfold addS at hp
  have hG : GW u (objs ++ [⟨k, types.map nothing⟩]) f := by
    refine ⟨by have := h.len; simp; omega, fun o ho => ?_, fun j h1 h2 => by rw [objN_app h1 (by have := h.len; omega)]; exact h.low j h1 h2, h.frm.mono (by simp)⟩
    simp only [List.mem_append, List.mem_singleton] at ho
    rcases ho with ho | rfl
    · exact (h.obs o ho).mono (by simp)
    · refine ⟨fun v hv => ?_, by simpa using hc⟩
      simp only [List.mem_map] at hv
      obtain ⟨t, _, rfl⟩ := hv
      exact nothing_W _ _
  obtain ⟨e1, e2, e3, e4, _⟩ := pushS_W hG ⟨fun _ => by simp; omega, fun hr => by cases hr⟩ hp
  exact ⟨e1, e2, e3, e4⟩
theorem objN_get {objs : List Ob} {n : Int} (h : 0 < n) (hl : n ≤ objs.length) : ∃ hi : (n - 1).toNat < objs.length, objN objs n = objs[(n - 1).toNat] :=
  ⟨by omega, objN_eq (by omega) (by omega)⟩
theorem objN_in {objs : List Ob} {n : Int} (h : 0 < n) (hl : n ≤ objs.length) : objN objs n ∈ objs := by
  obtain ⟨hi, e⟩ := objN_get h hl
  rw [e]; exact List.getElem_mem hi
theorem objN_set {objs : List Ob} {n k : Int} {o : Ob} (h : 0 < n) (hl : n ≤ objs.length) (hk : 0 < k) : objN (objs.set (n - 1).toNat o) k = if k = n then o else objN objs k := by
  unfold objN
  simp only [List.getD_eq_getElem?_getD, List.getElem?_set]
  by_cases hkn : k = n
  · subst hkn
    rw [if_pos rfl, if_pos (by omega), if_pos rfl]; rfl
  · rw [if_neg (by omega), if_neg hkn]
theorem put_W {u : Unt} {objs : List Ob} {f : Frm} {n i : Int} {v : Vl} (h : GW u objs f) (hn : 0 < n) (hl : n ≤ objs.length) (hv : VlW objs.length v) : GW u (putOb objs n (putAt (objN objs n).vals i v)) f := by
  have hlen : (putOb objs n (putAt (objN objs n).vals i v)).length = objs.length := by simp [putOb]
  have hO := h.obs _ (objN_in hn hl)
  refine ⟨by rw [hlen]; exact h.len, fun o ho => ?_, fun k h1 h2 => ?_, by rw [hlen]; exact h.frm⟩
  · rw [hlen]
    unfold putOb at ho
    rcases List.mem_or_eq_of_mem_set ho with ho | rfl
    · exact h.obs o ho
    · refine ⟨fun w hw => ?_, by simpa [putAt] using hO.2⟩
      rcases List.mem_or_eq_of_mem_set hw with hw | rfl
      · exact hO.1 w hw
      · exact hv
  · unfold putOb
    rw [objN_set hn hl h1]
    split
    · rename_i e; subst e; exact h.low k h1 h2
    · exact h.low k h1 h2
theorem thingS_inv {objs : List Ob} {n : Int} {so : Bool} {o : Ob} (h : thingS objs n so = .ok o) : (0 < n → so = true) ∧ n ≠ 0 ∧ o = objN objs n := by
  unfold thingS at h
  split at h
  · cases h
  · rename_i h1
    split at h
    · cases h
    · rename_i h2
      simp only [Except.ok.injEq] at h
      refine ⟨fun hn => ?_, h2, h.symm⟩
      cases so with
      | true => rfl
      | false => exact absurd ⟨hn, rfl⟩ h1
theorem arrS_inv {objs : List Ob} {x : Vl} {k n : Int} {o : Ob} (h : arrS objs x k n = .ok o) : (0 < x.n → (objN objs x.n).cls = arrC k) ∧ x.n ≠ 0 ∧ o = objN objs x.n ∧ 0 ≤ n ∧ n < o.vals.length := by
  unfold arrS at h
  split at h
  · cases h
  · rename_i o1 h1
    obtain ⟨a1, a2, rfl⟩ := thingS_inv h1
    split at h
    · rename_i h2
      simp only [Except.ok.injEq] at h
      subst h
      exact ⟨fun hn => by simpa using a1 hn, a2, rfl, h2⟩
    · cases h
theorem getD_W {n : Nat} {l : List Vl} {i : Nat} (h : ∀ v ∈ l, VlW n v) : VlW n (l.getD i noVl) := by
  rw [List.getD_eq_getElem?_getD]
  cases hi : l[i]? with
  | none => exact word_W (by decide)
  | some v => exact h v (List.mem_of_getElem? hi)
def ThingsT (u : Unt) (x : Ins) : Prop := (x.kind = 12 ∨ x.kind = 17 ∨ x.kind = 18 ∨ x.kind = 19 → 0 ≤ x.a ∧ x.a < u.classes.length) ∧ (x.kind = 17 ∨ x.kind = 18 → 0 ≤ x.b ∧ x.b < (flds u.classes x.a).length)
theorem thingsS_W {u : Unt} {x : Ins} {took : List Vl} {objs o' : List Ob} {f f' : Frm} (h : GW u objs f) (ht : TookT u x took objs.length) (hw : ∀ v ∈ took, VlW objs.length v) (hx : ThingsT u x)
    (hp : thingsS u x took objs f = .ok (o', f')) : GW u o' f' ∧ (o'.length = objs.length ∨ o'.length = objs.length + 1) ∧ f'.meth = f.meth ∧ f'.pc = f.pc := by
  obtain ⟨kind, xa, xb⟩ := x
  obtain ⟨t13, t14, t15, t16, t17, t18, t19, tr⟩ := ht
  simp only [ThingsT] at t13 t14 t15 t16 t17 t18 t19 hx
  have big : ∀ v ∈ took, v.ref = true → v.n ≠ 0 → 0 < v.n ∧ v.n ≤ objs.length := fun v hv hr h0 => by have := tr v hv hr; omega
  have hpush : ∀ {v : Vl} {f1 : Frm} {o1 : List Ob}, VlW objs.length v → pushS objs f v = .ok (o1, f1) → GW u o1 f1 ∧ (o1.length = objs.length ∨ o1.length = objs.length + 1) ∧ f1.meth = f.meth ∧ f1.pc = f.pc := by
    intro v f1 o1 hv hp
    obtain ⟨rfl, e2, e3, e4, _⟩ := pushS_W h hv hp
    exact ⟨e2, .inl rfl, e3, e4⟩
  have hadd : ∀ {k : Int} {types : List Int} {f1 : Frm} {o1 : List Ob}, ((k = -1 ∨ k = -2) ∧ types.length ≤ 6) ∨ (0 ≤ k ∧ k < u.classes.length ∧ types.length = (flds u.classes k).length) → addS k types objs f = .ok (o1, f1) → GW u o1 f1 ∧ (o1.length = objs.length ∨ o1.length = objs.length + 1) ∧ f1.meth = f.meth ∧ f1.pc = f.pc := by
    intro k types f1 o1 hk hp
    obtain ⟨rfl, e2, e3, e4⟩ := addS_W h hk hp
    exact ⟨e2, .inr (by simp), e3, e4⟩
  simp only [thingsS] at hp
  by_cases k12 : kind = 12
  · rw [if_pos k12] at hp
    exact hadd (.inr ⟨(hx.1 (by simp [k12])).1, (hx.1 (by simp [k12])).2, rfl⟩) hp
  rw [if_neg k12] at hp
  by_cases k13 : kind = 13
  · rw [if_pos k13] at hp
    split at hp
    · exact hadd (.inl ⟨by unfold arrC; split <;> simp, by rw [List.length_replicate]; omega⟩) hp
    · cases hp
  rw [if_neg k13] at hp
  by_cases k14 : kind = 14
  · rw [if_pos k14] at hp
    obtain ⟨a, rfl, hr⟩ := t14 k14
    split at hp
    · cases hp
    · rename_i o h1
      obtain ⟨a1, a2, rfl⟩ := thingS_inv h1
      have hb := big a (by simp) hr a2
      have hO := h.obs _ (objN_in hb.1 hb.2)
      have hc := a1 hb.1
      simp only [List.getD_cons_zero, decide_eq_true_eq] at hc
      refine hpush ⟨fun hr => (by cases hr), fun _ => isWord_iff.2 ?_⟩ hp
      simp only [List.getD_cons_zero]
      rcases hO.2 with ⟨_, h2⟩ | ⟨h2, _, _⟩
      · omega
      · omega
  rw [if_neg k14] at hp
  by_cases k15 : kind = 15
  · rw [if_pos k15] at hp
    obtain ⟨a, b, rfl, hr⟩ := t15 k15
    split at hp
    · cases hp
    · rename_i o h1
      obtain ⟨a1, a2, rfl, _⟩ := arrS_inv h1
      have hb := big a (by simp) hr a2
      exact hpush (getD_W (h.obs _ (objN_in hb.1 hb.2)).1) hp
  rw [if_neg k15] at hp
  by_cases k16 : kind = 16
  · rw [if_pos k16] at hp
    obtain ⟨a, b, c, rfl, hr⟩ := t16 k16
    split at hp
    · cases hp
    · rename_i o h1
      obtain ⟨a1, a2, rfl, _⟩ := arrS_inv h1
      have hb := big a (by simp) hr a2
      simp only [Except.ok.injEq, Prod.mk.injEq] at hp
      obtain ⟨rfl, rfl⟩ := hp
      exact ⟨put_W h hb.1 hb.2 (hw c (by simp)), .inl (by simp [putOb]), rfl, rfl⟩
  rw [if_neg k16] at hp
  by_cases k17 : kind = 17
  · rw [if_pos k17] at hp
    obtain ⟨a, rfl, hr⟩ := t17 k17
    split at hp
    · cases hp
    · rename_i o h1
      obtain ⟨a1, a2, rfl⟩ := thingS_inv h1
      have hb := big a (by simp) hr a2
      exact hpush (getD_W (h.obs _ (objN_in hb.1 hb.2)).1) hp
  rw [if_neg k17] at hp
  by_cases k18 : kind = 18
  · rw [if_pos k18] at hp
    obtain ⟨a, b, rfl, hr⟩ := t18 k18
    split at hp
    · cases hp
    · rename_i o h1
      obtain ⟨a1, a2, rfl⟩ := thingS_inv h1
      have hb := big a (by simp) hr a2
      simp only [Except.ok.injEq, Prod.mk.injEq] at hp
      obtain ⟨rfl, rfl⟩ := hp
      exact ⟨put_W h hb.1 hb.2 (hw b (by simp)), .inl (by simp [putOb]), rfl, rfl⟩
  rw [if_neg k18] at hp
  by_cases k19 : kind = 19
  · rw [if_pos k19] at hp
    obtain ⟨a, rfl, hr⟩ := t19 k19
    split at hp
    · cases hp
    · exact hpush (hw a (by simp)) hp
  rw [if_neg k19] at hp
  simp only [Except.ok.injEq, Prod.mk.injEq] at hp
  obtain ⟨rfl, rfl⟩ := hp
  exact ⟨h, .inl rfl, rfl, rfl⟩
end Go.Proofs
namespace Go.Proofs
open Go.Vc
set_option maxRecDepth 100000
set_option maxHeartbeats 4000000
theorem took_T {u : Unt} {x : Ins} {stk took rest : List Vl} {n : Nat} (ht : takeS u x stk = some (took, rest)) (hv : ∀ v ∈ stk, VlW n v) : TookT u x took n := by
  obtain ⟨ws, hws, hlen, hok, rfl⟩ := takeS_spec ht
  obtain ⟨kind, a, b⟩ := x
  refine ⟨fun hk => ?_, fun hk => ?_, fun hk => ?_, fun hk => ?_, fun hk => ?_, fun hk => ?_, fun hk => ?_, fun v hvt hr => (hv v (by simp [hvt])).1 hr⟩
  all_goals
    simp only at hk
    subst hk
    simp [seesL] at hws
    subst hws
  · exact one_of' hlen
  · obtain ⟨v, rfl⟩ := one_of' hlen; exact ⟨v, rfl, by simpa [okS] using hok⟩
  · obtain ⟨v, w, rfl⟩ := two_of hlen; exact ⟨v, w, rfl, by simp [okS] at hok; exact hok.1⟩
  · obtain ⟨v, w, z, rfl⟩ := three_of hlen; exact ⟨v, w, z, rfl, by simp [okS] at hok; exact hok.1⟩
  · obtain ⟨v, rfl⟩ := one_of' hlen; exact ⟨v, rfl, by simpa [okS] using hok⟩
  · obtain ⟨v, w, rfl⟩ := two_of hlen; exact ⟨v, w, rfl, by simp [okS] at hok; exact hok⟩
  · obtain ⟨v, rfl⟩ := one_of' hlen; exact ⟨v, rfl, by simpa [okS] using hok⟩
theorem GW.loc {u : Unt} {objs : List Ob} {f : Frm} (h : GW u objs f) (i : Nat) {v : Vl} (hv : VlW objs.length v) : GW u objs { f with locals := f.locals.set i v } := by
  obtain ⟨h1, h2, h3, h4, h5, h6⟩ := h.frm
  refine ⟨h.len, h.obs, h.low, h1, h2, by simpa using h3, h4, fun w hw => ?_, h6⟩
  rcases List.mem_or_eq_of_mem_set hw with hw | rfl
  · exact h5 w hw
  · exact hv
theorem pushM_inv {objs : List Ob} {f : Frm} {said : List Int} {v : Vl} {r : List Ob × Frm × List Int × Bool} (h : pushM objs f said v = .ok r) : ∃ o g, pushS objs f v = .ok (o, g) ∧ r = (o, g, said, false) := by
  unfold pushM at h
  split at h
  · rename_i o g hp
    simp only [Except.ok.injEq] at h
    exact ⟨o, g, hp, h.symm⟩
  · cases h
theorem intDo_W {op a b : Int} : -128 ≤ (intDo op a b).1 ∧ (intDo op a b).1 ≤ 127 := by
  unfold intDo
  have := w8_in (a + b)
  have := w8_in (a - b)
  have := w8_in (a * b)
  have := w8_in (a.tdiv b)
  repeat' split
  all_goals simp only
  all_goals omega
theorem InsT.things {u : Unt} {m : Mth} {x : Ins} (hx : InsT u m x) : ThingsT u x := by
  obtain ⟨kind, a, b⟩ := x
  refine ⟨fun hk => ?_, fun hk => ?_⟩
  · simp only at hk
    rcases hk with rfl | rfl | rfl | rfl
    · have := (InsT_iff (p := 5) (q := 0) rfl).1 hx; simp [OperT] at this; exact this.1
    · have := (InsT_iff (p := 5) (q := 8) rfl).1 hx; simp [OperT] at this; exact this.1
    · have := (InsT_iff (p := 5) (q := 8) rfl).1 hx; simp [OperT] at this; exact this.1
    · have := (InsT_iff (p := 5) (q := 0) rfl).1 hx; simp [OperT] at this; exact this.1
  · simp only at hk
    rcases hk with rfl | rfl
    · have := (InsT_iff (p := 5) (q := 8) rfl).1 hx; simp [OperT] at this; exact this.2
    · have := (InsT_iff (p := 5) (q := 8) rfl).1 hx; simp [OperT] at this; exact this.2
theorem midS_W {u : Unt} {m : Mth} {x : Ins} {took : List Vl} {objs o' : List Ob} {f g : Frm} {said said' : List Int} {goes : Bool} (h : GW u objs f) (ht : TookT u x took objs.length) (hw : ∀ v ∈ took, VlW objs.length v) (hx : InsT u m x)
    (h24 : x.kind = 24 → ∃ a, took = [a] ∧ a.ref = false)
    (hp : midS u x took objs f said = .ok (o', g, said', goes)) : GW u o' g ∧ (o'.length = objs.length ∨ o'.length = objs.length + 1) ∧ g.meth = f.meth ∧ g.pc = f.pc ∧ (said' = said ∨ ∃ w, isWord w = true ∧ said' = said ++ [w]) ∧ (goes = true → 8 ≤ x.kind ∧ x.kind ≤ 11) := by
  have hxt := hx.things
  obtain ⟨kind, xa, xb⟩ := x
  have hpush : ∀ {v : Vl}, VlW objs.length v → pushM objs f said v = .ok (o', g, said', goes) → GW u o' g ∧ (o'.length = objs.length ∨ o'.length = objs.length + 1) ∧ g.meth = f.meth ∧ g.pc = f.pc ∧ (said' = said ∨ ∃ w, isWord w = true ∧ said' = said ++ [w]) ∧ (goes = true → 8 ≤ kind ∧ kind ≤ 11) := by
    intro v hv hp
    obtain ⟨o1, g1, h1, e⟩ := pushM_inv hp
    simp only [Prod.mk.injEq] at e
    obtain ⟨rfl, rfl, rfl, rfl⟩ := e
    obtain ⟨rfl, e2, e3, e4, _⟩ := pushS_W h hv h1
    exact ⟨e2, .inl rfl, e3, e4, .inl rfl, fun hx => by cases hx⟩
  have hstay : ∀ {b : Bool}, (b = true → 8 ≤ kind ∧ kind ≤ 11) → (Except.ok (objs, f, said, b) : Mid) = .ok (o', g, said', goes) → GW u o' g ∧ (o'.length = objs.length ∨ o'.length = objs.length + 1) ∧ g.meth = f.meth ∧ g.pc = f.pc ∧ (said' = said ∨ ∃ w, isWord w = true ∧ said' = said ++ [w]) ∧ (goes = true → 8 ≤ kind ∧ kind ≤ 11) := by
    intro b hb e
    simp only [Except.ok.injEq, Prod.mk.injEq] at e
    obtain ⟨rfl, rfl, rfl, rfl⟩ := e
    exact ⟨h, .inl rfl, rfl, rfl, .inl rfl, hb⟩
  simp only [midS] at hp
  by_cases k1 : kind = 1
  · rw [if_pos k1] at hp
    subst k1
    have := (InsT_iff (p := 1) (q := 0) rfl).1 hx
    simp [OperT] at this
    exact hpush (word_W (isWord_iff.1 this.1)) hp
  rw [if_neg k1] at hp
  by_cases k2 : kind = 2
  · rw [if_pos k2] at hp
    exact hpush ⟨fun _ => by simp, fun hr => by cases hr⟩ hp
  rw [if_neg k2] at hp
  by_cases k3 : kind = 3
  · rw [if_pos k3] at hp
    exact hpush (getD_W h.frm.2.2.2.2.1) hp
  rw [if_neg k3] at hp
  by_cases k4 : kind = 4
  · rw [if_pos k4] at hp
    simp only [Except.ok.injEq, Prod.mk.injEq] at hp
    obtain ⟨rfl, rfl, rfl, rfl⟩ := hp
    exact ⟨h.loc _ (getD_W hw), .inl rfl, rfl, rfl, .inl rfl, fun hx => by cases hx⟩
  rw [if_neg k4] at hp
  by_cases k5 : kind = 5
  · rw [if_pos k5] at hp
    exact hstay (fun hx => by cases hx) hp
  rw [if_neg k5] at hp
  by_cases k6 : kind = 6
  · rw [if_pos k6] at hp
    split at hp
    · rename_i o1 g1 h1
      obtain ⟨rfl, e2, e3, e4, _⟩ := pushS_W h (getD_W hw) h1
      obtain ⟨o2, g2, h2, e⟩ := pushM_inv hp
      simp only [Prod.mk.injEq] at e
      obtain ⟨rfl, rfl, rfl, rfl⟩ := e
      obtain ⟨rfl, e2, e3', e4', _⟩ := pushS_W e2 (getD_W hw) h2
      exact ⟨e2, .inl rfl, by rw [e3', e3], by rw [e4', e4], .inl rfl, fun hx => by cases hx⟩
    · cases hp
  rw [if_neg k6] at hp
  by_cases k7 : kind = 7
  · rw [if_pos k7] at hp
    split at hp
    · exact hpush (word_W intDo_W) hp
    · cases hp
  rw [if_neg k7] at hp
  by_cases k8 : kind = 8
  · rw [if_pos k8] at hp
    exact hstay (fun _ => by omega) hp
  rw [if_neg k8] at hp
  by_cases k9 : kind = 9
  · rw [if_pos k9] at hp
    exact hstay (fun _ => by omega) hp
  rw [if_neg k9] at hp
  by_cases k10 : kind = 10
  · rw [if_pos k10] at hp
    exact hstay (fun _ => by omega) hp
  rw [if_neg k10] at hp
  by_cases k11 : kind = 11
  · rw [if_pos k11] at hp
    exact hstay (fun _ => by omega) hp
  rw [if_neg k11] at hp
  by_cases k24 : kind = 24
  · rw [if_pos k24] at hp
    obtain ⟨a, rfl, hr⟩ := h24 k24
    simp only [Except.ok.injEq, Prod.mk.injEq] at hp
    obtain ⟨rfl, rfl, rfl, rfl⟩ := hp
    exact ⟨h, .inl rfl, rfl, rfl, .inr ⟨a.n, (hw a (by simp)).2 hr, rfl⟩, fun hx => by cases hx⟩
  rw [if_neg k24] at hp
  split at hp
  · rename_i o1 g1 h1
    simp only [Except.ok.injEq, Prod.mk.injEq] at hp
    obtain ⟨rfl, rfl, rfl, rfl⟩ := hp
    obtain ⟨e1, e2, e3, e4⟩ := thingsS_W h ht hw hxt h1
    exact ⟨e1, e2, e3, e4, .inl rfl, fun hx => by cases hx⟩
  · cases hp
theorem findC_mem {u : Unt} {c pc : Int} : ∀ {l : List Ctc} {k : Ctc}, findC u c pc l = some k → k ∈ l ∧ (k.lo ≤ pc ∧ pc < k.hi) ∧ up u.classes c k.cls = true
  | [], _, h => by cases h
  | m :: r, k, h => by
    rw [findC] at h
    split at h
    · rename_i hc
      simp only [Option.some.injEq] at h
      subst h
      exact ⟨by simp, hc.1, hc.2⟩
    · obtain ⟨h1, h2⟩ := findC_mem h
      exact ⟨by simp [h1], h2⟩
def CalledR (u : Unt) (g k : Frm) : Prop := g.pc < (mth u g.meth).code.length ∧
  ((((mth u g.meth).code.getD g.pc.toNat noIns).kind = 20 ∧ ((mth u g.meth).code.getD g.pc.toNat noIns).a = k.meth) ∨
    (((mth u g.meth).code.getD g.pc.toNat noIns).kind = 21 ∧ 0 ≤ (mth u k.meth).cls ∧ (mth u k.meth).sel = ((mth u g.meth).code.getD g.pc.toNat noIns).b))
def Link (u : Unt) (l : List Frm) : Prop := ∀ gs g k hs, l = gs ++ g :: k :: hs → CalledR u g k
theorem Link.pre {u : Unt} {a b : List Frm} (h : Link u (a ++ b)) : Link u a := fun gs g k hs e => h gs g k (hs ++ b) (by rw [e]; simp)
theorem Link.last {u : Unt} {fs : List Frm} {f f' : Frm} (h : Link u (fs ++ [f])) (hm : f'.meth = f.meth) : Link u (fs ++ [f']) := by
  intro gs g k hs e
  rcases List.eq_nil_or_concat hs with rfl | ⟨hs', z, rfl⟩
  · have e' : fs ++ [f'] = (gs ++ [g]) ++ [k] := by rw [e]; simp
    obtain ⟨rfl, e2⟩ := List.append_inj' e' rfl
    simp only [List.cons.injEq, and_true] at e2
    subst e2
    have := h gs g f [] (by simp)
    unfold CalledR at this ⊢
    rw [hm]; exact this
  · have e' : fs ++ [f'] = (gs ++ g :: k :: hs') ++ [z] := by rw [e]; simp
    obtain ⟨rfl, e2⟩ := List.append_inj' e' rfl
    exact h gs g k (hs' ++ [f]) (by simp)
theorem Link.push {u : Unt} {fs : List Frm} {f k : Frm} (h : Link u (fs ++ [f])) (hc : CalledR u f k) : Link u (fs ++ [f] ++ [k]) := by
  intro gs g k' hs e
  rcases List.eq_nil_or_concat hs with rfl | ⟨hs', z, rfl⟩
  · have e' : fs ++ [f] ++ [k] = (gs ++ [g]) ++ [k'] := by rw [e]; simp
    obtain ⟨e1, e2⟩ := List.append_inj' e' rfl
    obtain ⟨_, e3⟩ := List.append_inj' e1 rfl
    simp only [List.cons.injEq, and_true] at e2 e3
    subst e2 e3
    exact hc
  · have e' : fs ++ [f] ++ [k] = (gs ++ g :: k' :: hs') ++ [z] := by rw [e]; simp
    obtain ⟨e1, _⟩ := List.append_inj' e' rfl
    exact h gs g k' hs' e1
theorem throwR_form {u : Unt} {c n : Int} : ∀ {l l' : List Frm}, throwR u c n l = some l' → ∃ l1 f r k, l = l1 ++ f :: r ∧ k ∈ (mth u f.meth).catches ∧ l' = { f with pc := k.to, stack := [⟨true, n⟩] } :: r
  | [], _, h => by cases h
  | f :: r, l', h => by
    rw [throwR] at h
    split at h
    · rename_i t ht
      simp only [Option.some.injEq] at h
      exact ⟨[], f, r, t, rfl, (findC_mem ht).1, h.symm⟩
    · obtain ⟨l1, g, r', k, rfl, h2, h3⟩ := throwR_form h
      exact ⟨f :: l1, g, r', k, rfl, h2, h3⟩
theorem throwR_W {u : Unt} (hu : UnitT u) {c n : Int} {k : Nat} (hn : 0 ≤ n ∧ n ≤ k) {l l' : List Frm} (h : throwR u c n l = some l') (hf : ∀ f ∈ l, FrW u k f) : l' ≠ [] ∧ l'.length ≤ l.length ∧ (∀ f ∈ l', FrW u k f) ∧ (Link u l.reverse → Link u l'.reverse) := by
  obtain ⟨l1, f, r, t, rfl, ht, rfl⟩ := throwR_form h
  refine ⟨by simp, by simp, fun g hg => ?_, fun hl => ?_⟩
  · rcases List.mem_cons.1 hg with rfl | hg
    · obtain ⟨h1, h2, h3, h4, h5, h6⟩ := hf f (by simp)
      have hc := (hu.mth h1).2.2.2 t ht
      have := hc.1
      refine ⟨h1, ⟨by show 0 ≤ t.to; omega, by show t.to ≤ ((mth u f.meth).code.length : Int); omega⟩, h3, by simp, h5, fun v hv => ?_⟩
      simp only [List.mem_singleton] at hv
      subst hv
      exact ⟨fun _ => hn, fun hr => by cases hr⟩
    · exact hf g (by simp [hg])
  · have e : (l1 ++ f :: r).reverse = (r.reverse ++ [f]) ++ l1.reverse := by simp
    rw [e] at hl
    have := hl.pre.last (f' := { f with pc := t.to, stack := [⟨true, n⟩] }) rfl
    simpa using this
theorem throwS_W {u : Unt} (hu : UnitT u) {M : Mch} (h : MOk u M) (hfin : M.fin = 0) {n : Int} (hn : 0 < n ∧ n ≤ M.objs.length) : MOk u (throwS u n M) ∧ (Link u M.frames → Link u (throwS u n M).frames) := by
  have hout : M.out = noVl := by
    rcases h.fin with h1 | h1 | h1
    · exact h1.2.2
    · omega
    · omega
  unfold throwS
  split
  · rename_i l hl
    obtain ⟨h1, h2, h3, h4⟩ := throwR_W hu (k := M.objs.length) (by omega) hl (fun f hf => h.frm f (by simpa using hf))
    refine ⟨⟨h.steps, h.len, ?_, h.nsaid, h.out, h.objs, h.low, fun f hf => h3 f (by simpa using hf), h.said, .inl ⟨.inl hfin, by simpa using h1, hout⟩⟩, by simpa using h4⟩
    have := h.nf
    simp only [List.length_reverse] at h2 ⊢
    omega
  · refine ⟨⟨h.steps, h.len, by simp, h.nsaid, ⟨fun _ => ⟨by show 0 ≤ n; omega, hn.2⟩, fun hr => by cases hr⟩, h.objs, h.low, fun f hf => (by cases hf), h.said, .inr (.inr ⟨rfl, rfl, rfl, by show 1 ≤ n; omega⟩)⟩, fun _ gs g k hs e => ?_⟩
    have := congrArg List.length e
    simp at this
theorem MOk.gw {u : Unt} {M : Mch} {f : Frm} (h : MOk u M) (hf : f ∈ M.frames) : GW u M.objs f := ⟨h.len.1, h.objs, h.low, h.frm f hf⟩
theorem callS_W {u : Unt} {M M' : Mch} {to : Int} {took : List Vl} (h : MOk u M) (hfin : M.fin = 0) (hto : 0 ≤ to ∧ to < u.methods.length) (hl : (took.length : Int) ≤ (mth u to).locals) (hw : ∀ v ∈ took, VlW M.objs.length v) {fs : List Frm} {f : Frm} (hfr : M.frames = fs ++ [f]) (hk : Link u M.frames) (hc : CalledR u f (callF u to took)) (hp : callS u to took M = .ok M') : MOk u M' ∧ Link u M'.frames ∧ M'.steps = M.steps := by
  have hout : M.frames ≠ [] ∧ M.out = noVl := by
    rcases h.fin with h1 | h1 | h1
    · exact h1.2
    · omega
    · omega
  unfold callS at hp
  split at hp
  · cases hp
  · rename_i h4
    simp only [Except.ok.injEq] at hp
    subst hp
    refine ⟨⟨h.steps, h.len, by simp; omega, h.nsaid, h.out, h.objs, h.low, fun f hf => ?_, h.said, .inl ⟨.inl hfin, by simp, hout.2⟩⟩, ?_, rfl⟩
    rotate_left
    · show Link u (M.frames ++ [callF u to took])
      rw [hfr] at hk ⊢
      exact hk.push hc
    simp only [List.mem_append, List.mem_singleton] at hf
    rcases hf with hf | rfl
    · exact h.frm f hf
    · refine ⟨hto, ⟨by simp [callF], by simp [callF]⟩, ?_, by simp [callF], fun v hv => ?_, fun v hv => by simp [callF] at hv⟩
      · simp only [callF, List.length_append, List.length_replicate]; omega
      · simp only [callF, List.mem_append] at hv
        rcases hv with hv | hv
        · exact hw v hv
        · rw [List.eq_of_mem_replicate hv]; exact word_W (by decide)
theorem doS_W {u : Unt} (hu : UnitT u) {M M' : Mch} {fs : List Frm} {f : Frm} (h : MOk u M) (hfin : M.fin = 0) (hf : M.frames = fs ++ [f]) (hs : M.said.length < 200) (ho : M.objs.length < 207) (hlk : Link u M.frames) (hp : doS u fs f M = .ok M') : MOk u M' ∧ Link u M'.frames ∧ M'.steps = M.steps := by
  have hff : f ∈ M.frames := by rw [hf]; simp
  have hF := h.frm f hff
  have hmT := hu.mth hF.1
  have hout : M.out = noVl := by
    rcases h.fin with h1 | h1 | h1
    · exact h1.2.2
    · omega
    · omega
  unfold doS at hp
  simp only at hp
  split at hp
  · cases hp
  rename_i hpc
  have hil : f.pc.toNat < (mth u f.meth).code.length := by have := hF.2.1.1; omega
  have hxm : (mth u f.meth).code[f.pc.toNat] ∈ (mth u f.meth).code := List.getElem_mem _
  have hxd : (mth u f.meth).code.getD f.pc.toNat noIns = (mth u f.meth).code[f.pc.toNat] := by simp [hil]
  have hxT := hmT.2.1.2.2.2.1 _ hxm
  rw [hxd] at hp
  generalize hxe : (mth u f.meth).code[f.pc.toNat] = x at hxm hxT hp
  split at hp
  · cases hp
  rename_i took rest ht
  have hst := takeS_spec ht
  obtain ⟨ws, hws, hwl, hok, hsk⟩ := hst
  have hrest : ∀ v ∈ rest, VlW M.objs.length v := fun v hv => hF.2.2.2.2.2 v (by rw [hsk]; simp [hv])
  have htook : ∀ v ∈ took, VlW M.objs.length v := fun v hv => hF.2.2.2.2.2 v (by rw [hsk]; simp [hv])
  have hrl : rest.length ≤ 4 := by have := hF.2.2.2.1; rw [hsk] at this; simp at this; omega
  have hF1 : FrW u M.objs.length { f with stack := rest } := ⟨hF.1, hF.2.1, hF.2.2.1, hrl, hF.2.2.2.2.1, hrest⟩
  have hG1 : GW u M.objs { f with stack := rest } := ⟨h.len.1, h.objs, h.low, hF1⟩
  have hfs : ∀ g ∈ fs, FrW u M.objs.length g := fun g hg => h.frm g (by rw [hf]; simp [hg])
  have hlf : fs.length + 1 ≤ 4 := by have := h.nf; rw [hf] at this; simpa using this
  have hM1 : MOk u { M with frames := fs ++ [{ f with stack := rest }] } := ⟨h.steps, h.len, by simpa using hlf, h.nsaid, h.out, h.objs, h.low, fun g hg => by
    simp only [List.mem_append, List.mem_singleton] at hg
    rcases hg with hg | rfl
    · exact hfs g hg
    · exact hF1, h.said, .inl ⟨.inl hfin, by simp, hout⟩⟩
  have hT := took_T ht hF.2.2.2.2.2
  rw [hf] at hlk
  have hlk1 : Link u (fs ++ [{ f with stack := rest }]) := hlk.last rfl
  have hxg : (mth u f.meth).code.getD f.pc.toNat noIns = x := by rw [hxd]; exact hxe
  split at hp
  · rename_i hk
    obtain ⟨kind, a, b⟩ := x
    simp only [callsS] at hp hk
    by_cases k20 : kind = 20
    · rw [if_pos k20] at hp
      subst k20
      have := (InsT_iff (p := 7) (q := 0) rfl).1 hxT
      simp [OperT] at this
      have ha := this.1.1
      have hmt := (hu.mth ha).1
      have hgl := hmt.2.2.2.2.2
      rw [given_len, if_neg (by omega)] at hgl
      simp [seesL] at hws
      subst hws
      have hq1 : (took.length : Int) ≤ (mth u a).locals := by rw [hwl]; simp; omega
      have hq2 : ((mth u f.meth).code.getD f.pc.toNat noIns).kind = 20 ∧ ((mth u f.meth).code.getD f.pc.toNat noIns).a = a := by rw [hxg]; exact ⟨rfl, rfl⟩
      have hres := callS_W hM1 hfin ha hq1 htook rfl hlk1 ⟨(by show f.pc < ((mth u f.meth).code.length : Int); omega), .inl hq2⟩ hp
      exact hres
    rw [if_neg k20] at hp
    by_cases k21 : kind = 21
    · rw [if_pos k21] at hp
      subst k21
      split at hp
      · cases hp
      rename_i o h1
      obtain ⟨a1, a2, rfl⟩ := thingS_inv h1
      simp [seesL] at hws
      have hl1 : took.length = (mth u (find u a b)).args.length + 1 := by rw [hwl, ← hws.2]; simp
      obtain ⟨v, r, rfl⟩ : ∃ v r, took = v :: r := by
        cases took with
        | nil => simp at hl1
        | cons v r => exact ⟨v, r, rfl⟩
      have hr : v.ref = true := by rw [← hws.2] at hok; simp [okS] at hok; exact hok.1
      simp only [List.getD_cons_zero] at a1 a2 hp
      have hb := (htook v (by simp)).1 hr
      have hup := a1 (by omega)
      have hO := h.objs _ (objN_in (objs := M.objs) (n := v.n) (by omega) hb.2)
      have hcl : (objN M.objs v.n).cls < u.classes.length := by
        rcases hO.2 with ⟨h2, _⟩ | ⟨_, h2, _⟩
        · have := hu.1.1; omega
        · exact h2
      have hsend := sendOk_of hu hF.1 ⟨21, a, b⟩ (v :: r) rest _ hxm rfl ht hcl hup
      have hfi := find_is hu.1 (s := b) ((objN M.objs v.n).cls.toNat + 1) (c := (objN M.objs v.n).cls) (by omega) hcl hsend.1
      have hq2 : ((mth u f.meth).code.getD f.pc.toNat noIns).kind = 21 ∧ 0 ≤ (mth u (find u (objN M.objs v.n).cls b)).cls ∧ (mth u (find u (objN M.objs v.n).cls b)).sel = ((mth u f.meth).code.getD f.pc.toNat noIns).b := by
        rw [hxg]; exact ⟨rfl, findOwn_cls hu.1 hcl hsend.1, hfi.2.1⟩
      have hres := callS_W hM1 hfin ⟨hsend.1, (find_bound u _ _).2⟩ hsend.2.1 htook rfl hlk1 ⟨(by show f.pc < ((mth u f.meth).code.length : Int); omega), .inr hq2⟩ hp
      exact hres
    rw [if_neg k21] at hp
    by_cases k22 : kind = 22
    · rw [if_pos k22] at hp
      subst k22
      have hv : VlW M.objs.length (took.getD 0 noVl) := getD_W htook
      rcases List.eq_nil_or_concat fs with rfl | ⟨gs, g, rfl⟩
      · rw [backS_nil] at hp
        simp only [Except.ok.injEq] at hp
        subst hp
        exact ⟨⟨h.steps, h.len, by simp, h.nsaid, hv, h.objs, h.low, fun f hf => (by cases hf), h.said, .inr (.inl ⟨rfl, rfl⟩)⟩, fun gs g k hs e => (by have := congrArg List.length e; simp at this), rfl⟩
      · rw [List.concat_eq_append, backS_app] at hp
        split at hp
        · rename_i h4
          simp only [Except.ok.injEq] at hp
          subst hp
          have hg := hfs g (by simp)
          have hcg := hlk gs g f [] (by simp)
          rw [List.concat_eq_append] at hlk
          refine ⟨⟨h.steps, h.len, by simp at hlf ⊢; omega, h.nsaid, h.out, h.objs, h.low, fun k hk => ?_, h.said, .inl ⟨.inl hfin, by simp, hout⟩⟩, hlk.pre.last rfl, rfl⟩
          simp only [List.mem_append, List.mem_singleton] at hk
          rcases hk with hk | rfl
          · exact hfs k (by simp [hk])
          · obtain ⟨h1, h2, h3, h5, h6, h7⟩ := hg
            refine ⟨h1, ⟨by show 0 ≤ g.pc + 1; omega, by show g.pc + 1 ≤ ((mth u g.meth).code.length : Int); have := hcg.1; omega⟩, h3, by simp; omega, h6, fun w hw => ?_⟩
            simp only [List.mem_append, List.mem_singleton] at hw
            rcases hw with hw | rfl
            · exact h7 w hw
            · exact hv
        · cases hp
    rw [if_neg k22] at hp
    have k23 : kind = 23 := by omega
    subst k23
    simp only [if_true] at hp
    split at hp
    · cases hp
    · rename_i o h1
      obtain ⟨a1, a2, rfl⟩ := thingS_inv h1
      simp only [Except.ok.injEq] at hp
      subst hp
      simp [seesL] at hws
      subst hws
      obtain ⟨v, rfl⟩ := one_of' hwl
      have hr : v.ref = true := by simpa [okS] using hok
      simp only [List.getD_cons_zero] at a2 ⊢
      have hb := (htook v (by simp)).1 hr
      have hth := throwS_W hu hM1 hfin (n := v.n) ⟨by omega, hb.2⟩
      exact ⟨hth.1, hth.2 hlk1, by unfold throwS; split <;> rfl⟩
  · rename_i hk
    split at hp
    · cases hp
    · rename_i objs g said goes hm
      simp only [Except.ok.injEq] at hp
      subst hp
      obtain ⟨e1, e2, e3, e4, e5, e6⟩ := midS_W hG1 hT htook hxT (fun h24 => by
        obtain ⟨kind, a, b⟩ := x
        simp only at h24
        subst h24
        simp [seesL] at hws
        subst hws
        obtain ⟨v, rfl⟩ := one_of' hwl
        exact ⟨v, rfl, by simpa [okS] using hok⟩) hm
      have hle : M.objs.length ≤ objs.length := by omega
      refine ⟨⟨h.steps, ⟨e1.len, by show objs.length ≤ 207; have := h.len.2; omega⟩, by simpa using hlf, ?_, h.out.mono hle, e1.obs, e1.low, fun k hk => ?_, ?_, .inl ⟨.inl hfin, by simp, hout⟩⟩, hlk.last e3, rfl⟩
      · rcases e5 with rfl | ⟨w, _, rfl⟩
        · exact h.nsaid
        · simp; omega
      · simp only [List.mem_append, List.mem_singleton] at hk
        rcases hk with hk | rfl
        · exact (hfs k hk).mono hle
        · obtain ⟨h1, h2, h3, h4, h5, h6⟩ := e1.frm
          refine ⟨h1, ?_, h3, h4, h5, h6⟩
          simp only at e3
          simp only [e3]
          split
          · rename_i hg
            have hkk := e6 hg
            obtain ⟨kind, a, b⟩ := x
            simp only at hkk
            have hk4 : kind = 8 ∨ kind = 9 ∨ kind = 10 ∨ kind = 11 := by omega
            have ha : 0 ≤ a ∧ a < (mth u f.meth).code.length := by
              rcases hk4 with rfl | rfl | rfl | rfl
              all_goals
                have := (InsT_iff (p := 4) (q := 0) rfl).1 hxT
                simp [OperT] at this
                exact this.1
            exact ⟨ha.1, by show a ≤ _; omega⟩
          · have := hF.2.1
            exact ⟨by omega, by omega⟩
      · intro n hn
        rcases e5 with rfl | ⟨w, hw, rfl⟩
        · exact h.said n hn
        · simp only [List.mem_append, List.mem_singleton] at hn
          rcases hn with hn | rfl
          · exact h.said n hn
          · exact hw
theorem pushS_err {objs : List Ob} {f : Frm} {v : Vl} {k : Int} (h : pushS objs f v = .error k) : k = 0 := by
  unfold pushS at h
  split at h
  · cases h
  · simpa using h.symm
theorem pushM_err {objs : List Ob} {f : Frm} {said : List Int} {v : Vl} {k : Int} (h : pushM objs f said v = .error k) : k = 0 := by
  unfold pushM at h
  split at h
  · cases h
  · rename_i e he
    simp only [Except.error.injEq] at h
    subst h
    exact pushS_err he
theorem thingS_err {objs : List Ob} {n : Int} {so : Bool} {k : Int} (h : thingS objs n so = .error k) : k = 0 ∨ k = 2 := by
  unfold thingS at h
  split at h
  · exact .inl (by simpa using h.symm)
  · split at h
    · exact .inr (by simpa using h.symm)
    · cases h
theorem arrS_err {objs : List Ob} {x : Vl} {a n k : Int} (h : arrS objs x a n = .error k) : k = 0 ∨ k = 2 ∨ k = 3 := by
  unfold arrS at h
  split at h
  · rename_i e he
    simp only [Except.error.injEq] at h
    subst h
    rcases thingS_err he with h | h
    · exact .inl h
    · exact .inr (.inl h)
  · split at h
    · cases h
    · exact .inr (.inr (by simpa using h.symm))
def Flt (k : Int) : Prop := k = 0 ∨ 0 < k ∧ k ≤ 7
theorem thingsS_err {u : Unt} {x : Ins} {took : List Vl} {objs : List Ob} {f : Frm} {k : Int} (h : thingsS u x took objs f = .error k) : Flt k := by
  unfold thingsS at h
  simp only [addS] at h
  repeat' split at h
  all_goals first
    | (cases h; done)
    | (have := pushS_err h; unfold Flt; omega)
    | (rename_i e he; simp only [Except.error.injEq] at h; subst h; first | (have := thingS_err he; unfold Flt; omega) | (have := arrS_err he; unfold Flt; omega))
    | (simp only [Except.error.injEq] at h; unfold Flt; omega)
theorem midS_err {u : Unt} {x : Ins} {took : List Vl} {objs : List Ob} {f : Frm} {said : List Int} {k : Int} (h : midS u x took objs f said = .error k) : Flt k := by
  have hp : ∀ {f1 : Frm} {v : Vl}, pushM objs f1 said v = .error k → Flt k := fun h => by have := pushM_err h; unfold Flt; omega
  unfold midS at h
  simp only at h
  by_cases k1 : x.kind = 1
  · rw [if_pos k1] at h
    exact hp h
  rw [if_neg k1] at h
  by_cases k2 : x.kind = 2
  · rw [if_pos k2] at h
    exact hp h
  rw [if_neg k2] at h
  by_cases k3 : x.kind = 3
  · rw [if_pos k3] at h
    exact hp h
  rw [if_neg k3] at h
  by_cases k4 : x.kind = 4
  · rw [if_pos k4] at h
    cases h
  rw [if_neg k4] at h
  by_cases k5 : x.kind = 5
  · rw [if_pos k5] at h
    cases h
  rw [if_neg k5] at h
  by_cases k6 : x.kind = 6
  · rw [if_pos k6] at h
    split at h
    · exact hp h
    · rename_i e he
      simp only [Except.error.injEq] at h
      subst h
      have := pushS_err he; unfold Flt; omega
  rw [if_neg k6] at h
  by_cases k7 : x.kind = 7
  · rw [if_pos k7] at h
    split at h
    · exact hp h
    · simp only [Except.error.injEq] at h
      unfold Flt; omega
  rw [if_neg k7] at h
  by_cases k8 : x.kind = 8
  · rw [if_pos k8] at h
    cases h
  rw [if_neg k8] at h
  by_cases k9 : x.kind = 9
  · rw [if_pos k9] at h
    cases h
  rw [if_neg k9] at h
  by_cases k10 : x.kind = 10
  · rw [if_pos k10] at h
    cases h
  rw [if_neg k10] at h
  by_cases k11 : x.kind = 11
  · rw [if_pos k11] at h
    cases h
  rw [if_neg k11] at h
  by_cases k24 : x.kind = 24
  · rw [if_pos k24] at h
    cases h
  rw [if_neg k24] at h
  split at h
  · cases h
  · rename_i e he
    simp only [Except.error.injEq] at h
    subst h
    exact thingsS_err he
theorem callS_err {u : Unt} {to : Int} {took : List Vl} {M : Mch} {k : Int} (h : callS u to took M = .error k) : Flt k := by
  unfold callS at h
  split at h
  · simp only [Except.error.injEq] at h; unfold Flt; omega
  · cases h
theorem callsS_err {u : Unt} {x : Ins} {took : List Vl} {fs : List Frm} {M : Mch} {k : Int} (h : callsS u x took fs M = .error k) : Flt k := by
  unfold callsS at h
  simp only [backS] at h
  repeat' split at h
  all_goals first
    | (cases h; done)
    | exact callS_err h
    | (rename_i e he; simp only [Except.error.injEq] at h; subst h; have := thingS_err he; unfold Flt; omega)
    | (simp only [Except.error.injEq] at h; unfold Flt; omega)
theorem doS_err {u : Unt} {fs : List Frm} {f : Frm} {M : Mch} {k : Int} (h : doS u fs f M = .error k) : Flt k := by
  unfold doS at h
  simp only at h
  split at h
  · simp only [Except.error.injEq] at h; unfold Flt; omega
  · split at h
    · simp only [Except.error.injEq] at h; unfold Flt; omega
    · split at h
      · exact callsS_err h
      · split at h
        · rename_i e he
          simp only [Except.error.injEq] at h
          subst h
          exact midS_err he
        · cases h
theorem throwS_steps {u : Unt} {n : Int} {M : Mch} : (throwS u n M).steps = M.steps := by unfold throwS; split <;> rfl
theorem callS_steps {u : Unt} {to : Int} {took : List Vl} {M M' : Mch} (h : callS u to took M = .ok M') : M'.steps = M.steps := by
  unfold callS at h
  split at h
  · cases h
  · simp only [Except.ok.injEq] at h; subst h; rfl
theorem doS_steps {u : Unt} {fs : List Frm} {f : Frm} {M M' : Mch} (h : doS u fs f M = .ok M') : M'.steps = M.steps := by
  unfold doS at h
  simp only at h
  split at h
  · cases h
  · split at h
    · cases h
    · split at h
      · unfold callsS at h
        simp only [backS] at h
        repeat' split at h
        all_goals first
          | (cases h; done)
          | (have := callS_steps h; exact this)
          | (simp only [Except.ok.injEq] at h; subst h; first | rfl | exact throwS_steps)
      · split at h
        · cases h
        · simp only [Except.ok.injEq] at h; subst h; rfl
theorem MOk.stepOk {u : Unt} (hu : UnitT u) {M : Mch} (h : MOk u M) (hfin : M.fin = 0) : StepOk u M where
  inv := h.inv
  frm _ := by
    rcases h.fin with h1 | h1 | h1
    · exact h1.2.1
    · omega
    · omega
  send f hf := sendOk_of hu (h.frm f hf).1
  fault fs f k _ hd := doS_err hd
  cls k h1 h2 := by rw [h.low k h1 h2]; have := hu.1.1; omega
  steps := h.steps
  steps' fs f M' _ hd := doS_steps hd
theorem stepS_W {u : Unt} (hu : UnitT u) {M : Mch} (h : MOk u M) (hlk : Link u M.frames) : MOk u (stepS u M) ∧ Link u (stepS u M).frames := by
  unfold stepS
  split
  · exact ⟨h, hlk⟩
  rename_i hg
  split
  · exact ⟨h, hlk⟩
  rename_i f hfl
  have hfr : M.frames = M.frames.dropLast ++ [f] := by
    have hne : M.frames ≠ [] := by intro hx; rw [hx] at hfl; cases hfl
    have := List.dropLast_concat_getLast hne
    rw [List.getLast?_eq_some_getLast hne] at hfl
    simp only [Option.some.injEq] at hfl
    rw [hfl] at this; exact this.symm
  have hfin : M.fin = 0 := by omega
  have hst := h.steps
  have up : ∀ {N : Mch}, MOk u N → N.steps = M.steps → MOk u { N with steps := N.steps + 1 } := fun {N} hN e =>
    ⟨by show 0 ≤ N.steps + 1 ∧ N.steps + 1 ≤ 200; omega, hN.len, hN.nf, hN.nsaid, hN.out, hN.objs, hN.low, hN.frm, hN.said, hN.fin⟩
  split
  · rename_i M' hd
    obtain ⟨h1, h2, h3⟩ := doS_W hu h hfin hfr (by omega) (by omega) hlk hd
    exact ⟨up h1 h3, h2⟩
  · rename_i k hd
    split
    · refine ⟨⟨by show 0 ≤ M.steps + 1 ∧ M.steps + 1 ≤ 200; omega, h.len, h.nf, h.nsaid, h.out, h.objs, h.low, h.frm, h.said, ?_⟩, hlk⟩
      rcases h.fin with h1 | h1 | h1
      · exact .inl ⟨.inr rfl, h1.2⟩
      · omega
      · omega
    · rename_i hk
      have hfl := doS_err hd
      have hth := throwS_W hu h hfin (n := k) (by have := h.len.1; unfold Flt at hfl; omega)
      exact ⟨up hth.1 throwS_steps, hth.2 hlk⟩
theorem flds_one {cs : List Cls} (ok : CsOk cs) : flds cs 1 = [1] := by
  have h2 := ok.1
  have h1 : (1 : Nat) < cs.length := by omega
  have hc := ok.2.2 1 h1
  have hs : superOf cs 1 = cs[1].super := superOf_eq h1
  rw [flds_step ok (by omega) (by omega), hs, (hc.2.2.1 rfl).1, flds_root (by omega)]
  have : fieldsAt cs 1 = cs[1].fields := by simp [fieldsAt, h1]
  rw [this, (hc.2.2.1 rfl).2]; rfl
theorem newM_W {u : Unt} (hu : UnitT u) : MOk u (newM u) ∧ Link u (newM u).frames := by
  have hm := hu.mth (k := 0) (by have := hu.2.1.1; omega)
  have hh := hm.1
  have hl0 : 0 ≤ (mth u 0).locals := by have := hh.2.2.2.2.2; omega
  refine ⟨⟨by simp [newM], by simp [newM, faultsN], by simp [newM], by simp [newM], word_W (by decide), fun o ho => ?_, fun k h1 h2 => ?_, fun f hf => ?_, fun n hn => (by cases hn), .inl ⟨.inl rfl, by simp [newM], rfl⟩⟩, fun gs g k hs e => ?_⟩
  · simp only [newM, faultsN, List.mem_map, List.mem_range] at ho
    obtain ⟨i, hi, rfl⟩ := ho
    refine ⟨fun v hv => ?_, .inr ⟨by simp [faultOb], by have := hu.1.1; simp only [faultOb]; omega, by simp only [faultOb]; rw [flds_one hu.1]; rfl⟩⟩
    simp only [faultOb, List.mem_singleton] at hv
    subst hv
    exact word_W (by omega)
  · have hk : k = 1 ∨ k = 2 ∨ k = 3 ∨ k = 4 ∨ k = 5 ∨ k = 6 ∨ k = 7 := by omega
    rcases hk with rfl | rfl | rfl | rfl | rfl | rfl | rfl <;> rfl
  · simp only [newM, List.mem_singleton] at hf
    subst hf
    refine ⟨⟨by simp, by have := hu.2.1.1; simp only; omega⟩, ⟨by simp, by simp⟩, by simp only [List.length_replicate]; omega, by simp, fun v hv => ?_, fun v hv => by cases hv⟩
    rw [List.eq_of_mem_replicate hv]; exact word_W (by decide)
  · have := congrArg List.length e
    simp [newM] at this
    omega
end Go.Proofs
namespace Go.Proofs
open Go.Vc
set_option maxRecDepth 100000
set_option maxHeartbeats 4000000
structure Sx where
  objs : List Ob
  fs : List Frm
  f : Frm
  said : List Int
  steps : Int
  fin : Int
  out : Vl
  st : Bool
  ft : Int
def Sx.mch (x : Sx) : Mch := ⟨x.objs, x.fs ++ [x.f], x.said, x.steps, x.fin, x.out⟩
structure XM (h0 h : Heap) (bx : Nat) (us : List Value) (u : Unt) (M : Mch) (st : Bool) (ft : Int) (B : List Nat) : Prop where
  ma : MaH h0 h bx us [.bool st, .int .i64 ft] M B
  un : UntR h0 us u
abbrev XS (h0 h : Heap) (bx : Nat) (us : List Value) (u : Unt) (x : Sx) (B : List Nat) : Prop := XM h0 h bx us u x.mch x.st x.ft B
def Tp (h : Heap) (bx n bf : Nat) : Prop := ∃ c, rd h bx 3 = some (.slice (some ⟨bf, 0, none⟩) (n + 1) c)
def XR (h0 h : Heap) (bx : Nat) (us : List Value) (u : Unt) (B : List Nat) (y : Sx) (h' : Heap) : Prop := ∃ B', XS h0 h' bx us u y B' ∧ Ev h h' (bx :: B) (bx :: B') ∧ rd h' bx 3 = rd h bx 3
theorem XR.trans {h0 h h1 h2 : Heap} {bx : Nat} {us : List Value} {u : Unt} {B B1 : List Nat} {y : Sx} (ev : Ev h h1 (bx :: B) (bx :: B1)) (e : rd h1 bx 3 = rd h bx 3) (hr : XR h0 h1 bx us u B1 y h2) : XR h0 h bx us u B y h2 := by
  obtain ⟨B', a, b, c⟩ := hr
  exact ⟨B', a, ev.trans b, c.trans e⟩
theorem MaH.setPost {h0 h : Heap} {bm : Nat} {pre post : List Value} {M : Mch} {B : List Nat} (hM : MaH h0 h bm pre post M B) :
    ∃ mc t, h bm = some (.cells (pre ++ mc ++ post).toArray t (0, 0)) ∧ mc.length = 7 ∧ ∀ post', MaH h0 (h.set bm (.cells (pre ++ mc ++ post').toArray t (0, 0))) bm pre post' M B ∧ Ev h (h.set bm (.cells (pre ++ mc ++ post').toArray t (0, 0))) (bm :: B) (bm :: B) := by
  have hM0 := hM
  obtain ⟨le, ⟨mc, t, hb, own⟩, nd, fr⟩ := hM
  have hnb : bm ∉ B := by
    intro hx
    have h1 := List.count_pos_iff.2 hx
    have h3 := nd bm
    simp only [List.count_cons, beq_self_eq_true, if_true] at h3
    omega
  have hlen : mc.length = 7 := by obtain ⟨_, _, _, _, _, _, rfl, _⟩ := own; rfl
  refine ⟨mc, t, hb, hlen, fun post' => ⟨⟨Heap.le_set_free le (fr bm (by simp)), ⟨mc, t, set_get _ _ _, own.keep fun b hb2 o ho => ?_⟩, nd, fr⟩, ⟨fun b hb2 hn => ?_, fun b hb => .inl hb⟩⟩⟩
  · have : b ≠ bm := by rintro rfl; exact hnb hb2
    simp only [Heap.set, this, if_false]; exact ho
  · have : b ≠ bm := fun hx => hn (by simp [hx])
    simp only [Heap.set, this, if_false]
theorem XM.us2 {h0 h : Heap} {bx : Nat} {us : List Value} {u : Unt} {M : Mch} {st : Bool} {ft : Int} {B : List Nat} (hX : XM h0 h bx us u M st ft B) : us.length = 2 := by
  obtain ⟨p, cc, q, d, rfl, _⟩ := hX.un.form
  rfl
theorem XM.rds {h0 h : Heap} {bx : Nat} {us : List Value} {u : Unt} {M : Mch} {st : Bool} {ft : Int} {B : List Nat} (hX : XM h0 h bx us u M st ft B) :
    rd h bx 9 = some (.bool st) ∧ rd h bx 10 = some (.int .i64 ft) ∧ (∃ p c, rd h bx 2 = some (.slice p M.objs.length c)) ∧ (∃ p c, rd h bx 3 = some (.slice p M.frames.length c)) ∧ (∃ p c, rd h bx 4 = some (.slice p M.said.length c)) ∧
      ∃ p c q d, us = [.slice p u.classes.length c, .slice q u.methods.length d] ∧ rd h bx 0 = some (.slice p u.classes.length c) ∧ rd h bx 1 = some (.slice q u.methods.length d) ∧ rdn h bx 0 2 = some [.slice p u.classes.length c, .slice q u.methods.length d] ∧
        ClsS h (.slice p u.classes.length c) u.classes ∧ Row 8 MthR h (.slice q u.methods.length d) u.methods := by
  obtain ⟨t, vo, vf, vs, hb, ⟨p1, c1, rfl⟩, ⟨p2, c2, rfl⟩, ⟨p3, c3, rfl⟩, _⟩ := hX.ma.ints
  have hu1 := hX.un.le hX.ma.le
  obtain ⟨p, cc, q, d, rfl, hcs, hms, _⟩ := hu1.form
  exact ⟨rd_cells hb rfl, rd_cells hb rfl, ⟨p1, c1, rd_cells hb rfl⟩, ⟨p2, c2, rd_cells hb rfl⟩, ⟨p3, c3, rd_cells hb rfl⟩, p, cc, q, d, rfl, rd_cells hb rfl, rd_cells hb rfl, rdn_cells hb 2 0 (by simp), hcs, hms⟩
theorem XM.post2 {h0 h : Heap} {bx : Nat} {us : List Value} {u : Unt} {M : Mch} {st st' : Bool} {ft ft' : Int} {B : List Nat} {K : Heap → Prop} {i : Nat} {v : Value} (hX : XM h0 h bx us u M st ft B)
    (hi : (i = 9 ∧ v = .bool st' ∧ ft' = ft) ∨ (i = 10 ∧ v = .int .i64 ft' ∧ st' = st))
    (hk : ∀ h', XM h0 h' bx us u M st' ft' B → Ev h h' (bx :: B) (bx :: B) → rd h' bx 3 = rd h bx 3 → (∀ b, b ≠ bx → h' b = h b) → K h') : St h bx i [v] K := by
  have hu2 := hX.us2
  obtain ⟨mc, t, hb, hlen, reb⟩ := hX.ma.setPost
  obtain ⟨k1, k2⟩ := reb [.bool st', .int .i64 ft']
  have hw : wrls (us ++ mc ++ [.bool st, .int .i64 ft]) i [v] = us ++ mc ++ [.bool st', .int .i64 ft'] := by
    have h1 : i = (us ++ mc).length + (i - 9) := by rcases hi with ⟨rfl, _⟩ | ⟨rfl, _⟩ <;> simp [hu2, hlen]
    have h2 := wr_mid (pre := us ++ mc) (x := [.bool st, .int .i64 ft]) (post := []) (n := i) (i := i - 9) (v := v) h1 (by rcases hi with ⟨rfl, _⟩ | ⟨rfl, _⟩ <;> simp)
    simp only [List.append_nil] at h2
    rw [h2]
    rcases hi with ⟨rfl, rfl, rfl⟩ | ⟨rfl, rfl, rfl⟩ <;> rfl
  refine Go.Vc.st hb (by simp [hu2, hlen]; omega) ?_
  rw [hw]
  refine hk _ ⟨k1, hX.un⟩ k2 ?_ (fun b hb => by simp only [Heap.set, hb, if_false])
  have hr : ∀ tl : List Value, (us ++ mc ++ tl)[3]? = mc[1]? := by
    intro tl
    rw [List.getElem?_append_left (by simp [hu2, hlen]), List.getElem?_append_right (by omega), hu2]
  rw [rd_set]
  unfold rd
  rw [hb]
  show (us ++ mc ++ [Value.bool st', Value.int .i64 ft']).toArray[3]? = (us ++ mc ++ [Value.bool st, Value.int .i64 ft]).toArray[3]?
  simp only [List.getElem?_toArray, hr]
theorem XM.post {h0 h : Heap} {bx : Nat} {us : List Value} {u : Unt} {M : Mch} {st st' : Bool} {ft ft' : Int} {B : List Nat} {K : Heap → Prop} {i : Nat} {v : Value} (hX : XM h0 h bx us u M st ft B)
    (hi : (i = 9 ∧ v = .bool st' ∧ ft' = ft) ∨ (i = 10 ∧ v = .int .i64 ft' ∧ st' = st))
    (hk : ∀ h', XM h0 h' bx us u M st' ft' B → Ev h h' (bx :: B) (bx :: B) → rd h' bx 3 = rd h bx 3 → K h') : St h bx i [v] K := hX.post2 hi (fun h' a b c _ => hk h' a b c)
theorem XM.stuck {h0 h : Heap} {bx : Nat} {us : List Value} {u : Unt} {M : Mch} {st : Bool} {ft : Int} {B : List Nat} {K : Heap → Prop} (hX : XM h0 h bx us u M st ft B)
    (hk : ∀ h', XM h0 h' bx us u M true ft B → Ev h h' (bx :: B) (bx :: B) → rd h' bx 3 = rd h bx 3 → K h') : St h bx 9 [.bool true] K := hX.post (.inl ⟨rfl, rfl, rfl⟩) hk
theorem XM.fault {h0 h : Heap} {bx : Nat} {us : List Value} {u : Unt} {M : Mch} {st : Bool} {ft k : Int} {B : List Nat} {K : Heap → Prop} (hX : XM h0 h bx us u M st ft B)
    (hk : ∀ h', XM h0 h' bx us u M st k B → Ev h h' (bx :: B) (bx :: B) → rd h' bx 3 = rd h bx 3 → K h') : St h bx 10 [.int .i64 k] K := hX.post (.inr ⟨rfl, rfl, rfl⟩) hk
theorem XS.tp {h0 h : Heap} {bx : Nat} {us : List Value} {u : Unt} {x : Sx} {B : List Nat} (hX : XS h0 h bx us u x B) : ∃ bf, Tp h bx x.fs.length bf := by
  obtain ⟨vo, vs, bf, c, tm, t, q, r, v1, v2, Bo, B1, B2, hb, _⟩ := hX.ma.top (fs := x.fs) (f := x.f) rfl
  exact ⟨bf, c, rd_mid hb (i := 1) (by rw [hX.us2]) rfl⟩
theorem XS.lens {h0 h : Heap} {bx : Nat} {us : List Value} {u : Unt} {x : Sx} {B : List Nat} {bf : Nat} (hX : XS h0 h bx us u x B) (ht : Tp h bx x.fs.length bf) :
    ∃ t q r v1 v2 B1 B2, h bf = some (.cells (q ++ [.int .i64 x.f.meth, .int .i64 x.f.pc, v1, v2] ++ r).toArray t (0, 0)) ∧ q.length = x.fs.length * 4 ∧ OwnV h v1 x.f.locals B1 ∧ OwnV h v2 x.f.stack B2 ∧ Nd (B1 ++ B2) ∧ (∀ b ∈ bf :: (B1 ++ B2), h0 b = none ∧ b ∈ B) ∧
      (∀ b, b ∈ B1 ++ B2 → b ≠ bf ∧ b ≠ bx) ∧ bf ≠ bx ∧
      ∀ h' f' v1' v2' B1' B2', h' bf = some (.cells (q ++ [.int .i64 f'.meth, .int .i64 f'.pc, v1', v2'] ++ r).toArray t (0, 0)) → (∀ b, b ∉ bf :: (B1 ++ B2) → h b ≠ none → h' b = h b) → OwnV h' v1' f'.locals B1' → OwnV h' v2' f'.stack B2' →
        (∀ b ∈ B1' ++ B2', b ∈ B1 ++ B2 ∨ h b = none) → Nd (B1' ++ B2') → XR h0 h bx us u B { x with f := f' } h' := by
  obtain ⟨tm, vo, vs, bf', c, t, q, r, v1, v2, B1, B2, hb, hbf, hq, o1, o2, nd, hin, hne, ne1, reb⟩ := hX.ma.lens (fs := x.fs) (f := x.f) rfl
  obtain ⟨c0, htp⟩ := ht
  have e1 : rd h bx 3 = some (.slice (some ⟨bf', 0, none⟩) (x.fs.length + 1) c) := rd_mid hb (i := 1) (by rw [hX.us2]) rfl
  rw [htp] at e1
  simp only [Option.some.injEq, Value.slice.injEq, Addr.mk.injEq, and_true, true_and] at e1
  obtain ⟨rfl, rfl⟩ := e1
  refine ⟨t, q, r, v1, v2, B1, B2, hbf, hq, o1, o2, nd, hin, hne, ne1, ?_⟩
  intro h' f' v1' v2' B1' B2' k1 k2 k3 k4 k5 k6
  obtain ⟨B', hM', ev⟩ := reb h' f' v1' v2' B1' B2' k1 k2 k3 k4 k5 k6
  refine ⟨B', ⟨hM', hX.un⟩, ev, ?_⟩
  have hbx : h' bx = h bx := k2 bx (by simp only [List.mem_cons, not_or]; exact ⟨fun hx => ne1 hx.symm, fun hx => (hne _ hx).2 rfl⟩) (by rw [hb]; simp)
  unfold rd; rw [hbx]
theorem XS.stk {h0 h : Heap} {bx : Nat} {us : List Value} {u : Unt} {x : Sx} {B : List Nat} {bf : Nat} (hX : XS h0 h bx us u x B) (ht : Tp h bx x.fs.length bf) :
    ∃ t q r v1 p2 c2 B2, h bf = some (.cells (q ++ [.int .i64 x.f.meth, .int .i64 x.f.pc, v1, .slice p2 (x.f.stack.map vl2).length c2] ++ r).toArray t (0, 0)) ∧ q.length = x.fs.length * 4 ∧ OwnV h (.slice p2 (x.f.stack.map vl2).length c2) x.f.stack B2 ∧ (∀ b ∈ B2, h0 b = none) ∧
      rd h bf (x.fs.length * 4 + 3) = some (.slice p2 (x.f.stack.map vl2).length c2) ∧
      ∀ h1 v2' B2' S' pc', (∀ b, b ∉ B2 → h b ≠ none → h1 b = h b) → OwnV h1 v2' S' B2' → (∀ b ∈ B2', b ∈ B2 ∨ h b = none) →
        h1 bf = h bf ∧ XR h0 h bx us u B { x with f := { x.f with pc := pc', stack := S' } } (h1.set bf (.cells (q ++ [.int .i64 x.f.meth, .int .i64 pc', v1, v2'] ++ r).toArray t (0, 0))) := by
  obtain ⟨t, q, r, v1, v2, B1, B2, hbf, hq, o1, o2, nd, hfr, hne, ne1, reb⟩ := hX.lens ht
  obtain ⟨p2, c2, rfl, hcap⟩ := o2.form
  refine ⟨t, q, r, v1, p2, c2, B2, hbf, hq, o2, fun b hb => (hfr b (by simp; grind)).1, rd_mid hbf (i := 3) (by rw [hq]) rfl, ?_⟩
  intro h1 v2' B2' S' pc' k1 k2 k3
  have n1 : bf ∉ B2 := fun hx => (hne bf (by simp [hx])).1 rfl
  have hd : ∀ b, b ∈ B1 → b ∉ B2 := by
    intro b h1 h2
    have := nd b
    have := List.count_pos_iff.2 h1
    have := List.count_pos_iff.2 h2
    simp only [List.count_append] at *
    omega
  have nb : ∀ b ∈ B2', b ≠ bf := by
    intro b hb
    rcases k3 b hb with hx | hx
    · rintro rfl; exact n1 hx
    · rintro rfl; rw [hbf] at hx; cases hx
  refine ⟨k1 bf n1 (by rw [hbf]; simp), ?_⟩
  refine reb _ { x.f with pc := pc', stack := S' } v1 v2' B1 B2' ?_ ?_ ?_ ?_ ?_ ?_
  · simp [Heap.set]
  · intro b hb hn
    have hb1 : b ≠ bf := fun hx => hb (by simp [hx])
    simp only [Heap.set, hb1, if_false]
    exact k1 b (fun hx => hb (by simp [hx])) hn
  · refine o1.keep fun b hb o ho => ?_
    have hb1 := (hne b (by simp [hb])).1
    simp only [Heap.set, hb1, if_false]
    rw [k1 b (hd b hb) (by rw [ho]; simp)]; exact ho
  · refine k2.keep fun b hb o ho => ?_
    simp only [Heap.set, nb b hb, if_false]
    exact ho
  · intro b hb
    rcases List.mem_append.1 hb with hx | hx
    · exact .inl (by simp [hx])
    · rcases k3 b hx with hy | hy
      · exact .inl (by simp [hy])
      · exact .inr hy
  · refine Nd.swap nd k2.nd fun b hb => ?_
    rcases k3 b hb with hx | hx
    · exact .inl hx
    · refine .inr fun hy => ?_
      obtain ⟨o, ho⟩ := o1.in b hy
      rw [hx] at ho; cases ho
theorem top_x {h0 h : Heap} {bx : Nat} {us : List Value} {u : Unt} {x : Sx} {B : List Nat} {bf : Nat} (hX : XS h0 h bx us u x B) (ht : Tp h bx x.fs.length bf) (hn : x.fs.length ≤ 1000) :
    Pure Tryz.prog 171 [.pointer (some ⟨bx, 0, none⟩)] h (.pointer (some ⟨bf, x.fs.length * 4, none⟩)) := by
  obtain ⟨c, ht⟩ := ht
  refine pur Tryz.sigOk Tryz.func171 Tryz.F171 Tryz.ok171 rfl ?_
  conv => whnf
  repeat' ((first | refine ld ht ?_ | refine ob (by omega) ?_ | refine ar_in (by omega) (by omega) ?_ | refine ptr ?_) <;> conv => whnf)
  refine ⟨?_, rfl⟩
  have : 0 + (((x.fs.length + 1 : Nat) : Int) - 1).toNat * 4 = x.fs.length * 4 := by omega
  rw [this]
end Go.Proofs
namespace Go.Proofs
open Go.Vc
set_option maxRecDepth 100000
set_option maxHeartbeats 4000000
def pushX (x : Sx) (v : Vl) : Sx := if 4 ≤ x.f.stack.length then { x with st := true } else { x with f := { x.f with stack := x.f.stack ++ [v] } }
def popX (x : Sx) : Vl × Sx := match x.f.stack.getLast? with
  | none => (noVl, { x with st := true })
  | some v => (v, { x with f := { x.f with stack := x.f.stack.dropLast } })
def wordX (x : Sx) : Int × Sx := if (popX x).1.ref = true then (0, { (popX x).2 with st := true }) else ((popX x).1.n, (popX x).2)
def refX (x : Sx) : Int × Sx := if (popX x).1.ref = true then ((popX x).1.n, (popX x).2) else (0, { (popX x).2 with st := true })
def wrongX (x : Sx) (k : Int) : Sx := if x.ft = 0 then { x with ft := k } else x
def Sx.bad (x : Sx) : Prop := x.st = true ∨ 0 < x.ft
instance (x : Sx) : Decidable x.bad := inferInstanceAs (Decidable (_ ∨ _))
def isBad (u : Unt) (c k : Int) : Bool := (decide (k < 0) && !decide (c = k)) || (decide (0 ≤ k) && !(decide (0 ≤ c) && up u.classes c k))
def thingX (u : Unt) (x : Sx) (n k : Int) : Sx := if x.bad then x else if n = 0 then wrongX x 2 else if isBad u (objN x.objs n).cls k = true then { x with st := true } else x
def madeX (x : Sx) (o : Ob) : Sx := if x.bad then x else pushX { x with objs := x.objs ++ [o] } ⟨true, x.objs.length + 1⟩
def freshX (u : Unt) (x : Sx) (k : Int) : Sx := madeX x ⟨k, (flds u.classes k).map nothing⟩
def arrX (k n : Int) : Ob := ⟨-1 - k, List.replicate (min n 6).toNat ⟨decide (k = 1), 0⟩⟩
def arrayX (x : Sx) (k : Int) : Sx := madeX (if 0 ≤ (wordX x).1 ∧ (wordX x).1 ≤ 6 then (wordX x).2 else wrongX (wordX x).2 4) (arrX k (wordX x).1)
def opX (x : Sx) (op : Int) : Sx :=
  let b := wordX x
  let a := wordX b.2
  if (intDo op a.1 b.1).2 = true then pushX a.2 ⟨false, (intDo op a.1 b.1).1⟩ else wrongX a.2 1
def sizeX (x : Sx) : Sx :=
  let r := refX x
  if 0 < r.1 ∧ r.2.st = false ∧ 0 ≤ (objN r.2.objs r.1).cls then { r.2 with st := true } else if r.1 = 0 then wrongX r.2 2 else pushX r.2 ⟨false, (objN r.2.objs r.1).vals.length⟩
def putX (x : Sx) (n i : Int) (v : Vl) : Sx := { x with objs := putOb x.objs n (putAt (objN x.objs n).vals i v) }
def elemX (u : Unt) (x : Sx) (k : Int) (set : Bool) : Sx :=
  let p := if set = true then popX x else (noVl, x)
  let w := wordX p.2
  let r := refX w.2
  let y := thingX u r.2 r.1 (-1 - k)
  if y.bad then y else if ¬ (0 ≤ w.1 ∧ w.1 < (objN y.objs r.1).vals.length) then wrongX y 3 else if set = true then putX y r.1 w.1 p.1 else pushX y ((objN y.objs r.1).vals.getD w.1.toNat noVl)
def fieldX (u : Unt) (x : Sx) (k i : Int) (set : Bool) : Sx :=
  let p := if set = true then popX x else (noVl, x)
  let r := refX p.2
  let y := thingX u r.2 r.1 k
  if y.bad then y else if set = true then putX y r.1 i p.1 else pushX y ((objN y.objs r.1).vals.getD i.toNat noVl)
def castX (u : Unt) (x : Sx) (k : Int) : Sx :=
  let r := refX x
  if r.2.st = true then r.2 else if 0 < r.1 ∧ tyIn u.classes (typeOf (objN r.2.objs r.1).cls) (8 + k) = false then wrongX r.2 5 else pushX r.2 ⟨true, r.1⟩
theorem pushX_bad {x : Sx} {v : Vl} (h : 4 ≤ x.f.stack.length) : pushX x v = { x with st := true } := if_pos h
theorem pushX_ok {x : Sx} {v : Vl} (h : x.f.stack.length < 4) : pushX x v = { x with f := { x.f with stack := x.f.stack ++ [v] } } := if_neg (by omega)
theorem popX_nil {x : Sx} (h : x.f.stack = []) : popX x = (noVl, { x with st := true }) := by unfold popX; rw [h]; rfl
theorem popX_app {x : Sx} {l : List Vl} {v : Vl} (h : x.f.stack = l ++ [v]) : popX x = (v, { x with f := { x.f with stack := l } }) := by unfold popX; rw [h]; simp
theorem popX_fs (x : Sx) : (popX x).2.fs = x.fs ∧ (popX x).2.objs = x.objs ∧ (popX x).2.f.stack.length ≤ x.f.stack.length ∧ (popX x).2.f.locals = x.f.locals := by
  rcases List.eq_nil_or_concat x.f.stack with h | ⟨l, v, h⟩
  · rw [popX_nil h]; simp
  · rw [List.concat_eq_append] at h
    rw [popX_app h, h]; simp
theorem wordX_fs (x : Sx) : (wordX x).2.fs = x.fs ∧ (wordX x).2.objs = x.objs ∧ (wordX x).2.f.stack.length ≤ x.f.stack.length ∧ (wordX x).2.f.locals = x.f.locals := by
  unfold wordX; split <;> exact popX_fs x
theorem refX_fs (x : Sx) : (refX x).2.fs = x.fs ∧ (refX x).2.objs = x.objs ∧ (refX x).2.f.stack.length ≤ x.f.stack.length ∧ (refX x).2.f.locals = x.f.locals := by
  unfold refX; split <;> exact popX_fs x
def vlV (v : Vl) : Value := .agg #[.bool v.ref, .int .i64 v.n]
end Go.Proofs
namespace Go.Proofs
open Go.Vc
set_option maxRecDepth 100000
set_option maxHeartbeats 4000000
theorem push_x {h0 h : Heap} {bx : Nat} {us : List Value} {u : Unt} {x : Sx} {B : List Nat} (hX : XS h0 h bx us u x B) (hn : x.fs.length ≤ 1000) (hs : x.f.stack.length ≤ 1000) (v : Vl) :
    Rets Tryz.prog 217 [.pointer (some ⟨bx, 0, none⟩), vlV v] h fun _ h' => XR h0 h bx us u B (pushX x v) h' := by
  obtain ⟨bf, ht⟩ := hX.tp
  obtain ⟨t, q, r, v1, p2, c2, B2, hbf, hq, o2, hfr, r3, reb⟩ := hX.stk ht
  have hle := hX.ma.le
  have hlen := len_map vl2 x.f.stack
  have htop := top_x hX ht hn
  refine rets Tryz.sigOk Tryz.func217 Tryz.F217 Tryz.ok217 rfl ?_
  conv => whnf
  refine call_p htop ?_
  conv => whnf
  refine ld r3 ?_
  conv => whnf
  refine selP (fun g => ?_) (fun g => ?_)
  all_goals conv => whnf
  · refine hX.stuck (fun h1 hX1 ev1 e1 => ?_)
    conv => whnf
    rw [pushX_bad (by omega)]
    exact ⟨B, hX1, ev1, e1⟩
  repeat' ((first | exact trivial | refine ld r3 ?_ | refine And.intro ?_ ?_) <;> conv => whnf)
  all_goals
    refine app_own (h0 := h0) (ys := [vl2 v]) o2 hfr hle rfl rfl (by simp [vl2]) rfl rfl (by simp; omega) (by simp; omega) ?_
    intro v' h1 B2' g1 g2 g3 g4 g5
    have ff := g2.form
    obtain ⟨p', c', rfl, hc'⟩ := ff
    have g2' : OwnV h1 (.slice p' (x.f.stack.map vl2 ++ [vl2 v]).length c') (x.f.stack ++ [v]) B2' := by unfold OwnV; rw [List.map_append]; exact g2
    obtain ⟨e1, hR⟩ := reb h1 _ B2' (x.f.stack ++ [v]) x.f.pc g4 g2' g5
    rw [hbf] at e1
    conv => whnf
    repeat' ((first | refine st e1 (by simp; omega) ?_) <;> conv => whnf)
    rw [set_wr (i := 3) (by rw [hq]) (by simp), pushX_ok (by omega)]
    exact hR
theorem pop_x2 {h0 h : Heap} {bx : Nat} {us : List Value} {u : Unt} {x : Sx} {B : List Nat} (hX : XS h0 h bx us u x B) (hn : x.fs.length ≤ 1000) (hs : x.f.stack.length ≤ 1000) :
    Rets Tryz.prog 216 [.pointer (some ⟨bx, 0, none⟩)] h fun v h' => v = vlV (popX x).1 ∧ XR h0 h bx us u B (popX x).2 h' ∧ ∀ bf, Tp h bx x.fs.length bf → rd h' bf (x.fs.length * 4 + 2) = rd h bf (x.fs.length * 4 + 2) := by
  obtain ⟨bf, ht⟩ := hX.tp
  have htu : ∀ bf', Tp h bx x.fs.length bf' → bf' = bf := by
    rintro bf' ⟨c1, k1⟩
    obtain ⟨c2, k2⟩ := ht
    rw [k1] at k2
    simp only [Option.some.injEq, Value.slice.injEq, Addr.mk.injEq, and_true, true_and] at k2
    exact k2.1
  have hbfx : bf ≠ bx := by
    obtain ⟨_, _, _, _, _, _, _, _, _, _, _, _, _, _, ne1, _⟩ := hX.lens ht
    exact ne1
  obtain ⟨t, q, r, v1, p2, c2, B2, hbf, hq, o2, hfr, r3, reb⟩ := hX.stk ht
  have hle := hX.ma.le
  have hlen := len_map vl2 x.f.stack
  have htop := top_x hX ht hn
  rcases List.eq_nil_or_concat x.f.stack with hnil | ⟨l, w, hcat⟩
  · have h0 : (List.map vl2 x.f.stack).length = 0 := by rw [hnil]; rfl
    refine rets Tryz.sigOk Tryz.func216 Tryz.F216 Tryz.ok216 rfl ?_
    conv => whnf
    refine call_p htop ?_
    conv => whnf
    refine ld r3 ?_
    conv => whnf
    refine selPt (by omega) ?_
    conv => whnf
    refine hX.post2 (st' := true) (.inl ⟨rfl, rfl, rfl⟩) (fun h1 hX1 ev1 e1 k1 => ?_)
    conv => whnf
    rw [popX_nil hnil]
    exact ⟨rfl, ⟨B, hX1, ev1, e1⟩, fun bf' hb => by rw [htu bf' hb]; unfold rd; rw [k1 bf hbfx]⟩
  · rw [List.concat_eq_append] at hcat
    have hl1 : x.f.stack.length = l.length + 1 := by rw [hcat]; simp
    have hi : l.length < x.f.stack.length := by omega
    obtain ⟨b2, rfl, r4, _, rfl, _⟩ := o2.two hi
    have hge : x.f.stack[l.length] = w := by simp [hcat]
    rw [hge] at r4
    have e5 : (((List.map vl2 x.f.stack).length : Int) - 1).toNat = l.length := by omega
    have r4' : rdn h b2 (0 + (((List.map vl2 x.f.stack).length : Int) - 1).toNat * 2) 2 = some (vl2 w) := by rw [e5]; exact r4
    have hc := o2.form
    obtain ⟨_, _, he, hcap⟩ := hc
    simp only [Value.slice.injEq] at he
    obtain ⟨_, _, rfl⟩ := he
    have o3 : OwnV h (.slice (some ⟨b2, 0, none⟩) l.length c2) l [b2] := by
      have := OwnC.first (l := l.length) o2 (by omega)
      have e6 : (List.map vl2 x.f.stack).take l.length = l.map vl2 := by rw [hcat]; simp
      rw [e6] at this; exact this
    have hrb := (reb h _ [b2] l x.f.pc (fun _ _ _ => rfl) o3 (fun b hb => .inl hb)).2
    rw [← e5] at hrb
    refine rets Tryz.sigOk Tryz.func216 Tryz.F216 Tryz.ok216 rfl ?_
    conv => whnf
    refine call_p htop ?_
    conv => whnf
    refine ld r3 ?_
    conv => whnf
    refine selPf (by omega) ?_
    conv => whnf
    repeat' ((first | refine ld r3 ?_ | refine ldn r4' ?_ | refine ob (by omega) ?_ | refine ar_in (by omega) (by omega) ?_ | refine ptr ?_) <;> conv => whnf)
    refine st1h hbf (i := 3) [.int .i64 x.f.meth, .int .i64 x.f.pc, v1, .slice (some ⟨b2, 0, none⟩) (((List.map vl2 x.f.stack).length : Int) - 1).toNat c2] (by omega) (by simp) rfl (fun h9 hh9 g9 => ?_)
    rw [← hh9] at hrb
    conv => whnf
    rw [popX_app hcat]
    refine ⟨rfl, hrb, fun bf' hb => ?_⟩
    rw [htu bf' hb, rd_mid hbf (i := 2) (by omega) rfl]
    exact rd_mid (pre := q) (x := [.int .i64 x.f.meth, .int .i64 x.f.pc, v1, .slice (some ⟨b2, 0, none⟩) (((List.map vl2 x.f.stack).length : Int) - 1).toNat c2]) (post := r) g9 (i := 2) (by omega) rfl
theorem pop_x {h0 h : Heap} {bx : Nat} {us : List Value} {u : Unt} {x : Sx} {B : List Nat} (hX : XS h0 h bx us u x B) (hn : x.fs.length ≤ 1000) (hs : x.f.stack.length ≤ 1000) :
    Rets Tryz.prog 216 [.pointer (some ⟨bx, 0, none⟩)] h fun v h' => v = vlV (popX x).1 ∧ XR h0 h bx us u B (popX x).2 h' := (pop_x2 hX hn hs).mono fun _ _ hh => ⟨hh.1, hh.2.1⟩
end Go.Proofs
namespace Go.Proofs
open Go.Vc
set_option maxRecDepth 100000
set_option maxHeartbeats 4000000
structure SOk (u : Unt) (x : Sx) : Prop where
  len : 7 ≤ x.objs.length ∧ x.objs.length ≤ 300
  obs : ∀ o ∈ x.objs, ObW u x.objs.length o
  nf : x.fs.length ≤ 3
  frm : FrW u x.objs.length x.f
  ft : 0 ≤ x.ft
theorem FrW.stk {u : Unt} {n : Nat} {f : Frm} (h : FrW u n f) {l : List Vl} (hl : l.length ≤ 4) (hv : ∀ v ∈ l, VlW n v) : FrW u n { f with stack := l } := ⟨h.1, h.2.1, h.2.2.1, hl, h.2.2.2.2.1, hv⟩
theorem SOk.stuck {u : Unt} {x : Sx} (h : SOk u x) : SOk u { x with st := true } := ⟨h.len, h.obs, h.nf, h.frm, h.ft⟩
theorem SOk.pop {u : Unt} {x : Sx} (h : SOk u x) : SOk u (popX x).2 ∧ VlW x.objs.length (popX x).1 := by
  rcases List.eq_nil_or_concat x.f.stack with hn | ⟨l, v, hn⟩
  · rw [popX_nil hn]; exact ⟨h.stuck, word_W (by decide)⟩
  · rw [List.concat_eq_append] at hn
    rw [popX_app hn]
    have h4 := h.frm.2.2.2.1
    have h5 := h.frm.2.2.2.2.2
    rw [hn] at h4 h5
    exact ⟨⟨h.len, h.obs, h.nf, h.frm.stk (by simp at h4; omega) (fun w hw => h5 w (by simp [hw])), h.ft⟩, h5 v (by simp)⟩
theorem SOk.word {u : Unt} {x : Sx} (h : SOk u x) : SOk u (wordX x).2 ∧ -128 ≤ (wordX x).1 ∧ (wordX x).1 ≤ 127 := by
  have hp := h.pop
  unfold wordX
  split
  · exact ⟨hp.1.stuck, by simp⟩
  · rename_i hr
    exact ⟨hp.1, isWord_iff.1 (hp.2.2 (by simpa using hr))⟩
theorem SOk.ref {u : Unt} {x : Sx} (h : SOk u x) : SOk u (refX x).2 ∧ 0 ≤ (refX x).1 ∧ (refX x).1 ≤ x.objs.length := by
  have hp := h.pop
  unfold refX
  split
  · rename_i hr
    exact ⟨hp.1, hp.2.1 hr⟩
  · exact ⟨hp.1.stuck, by simp⟩
theorem SOk.wrong {u : Unt} {x : Sx} (h : SOk u x) {k : Int} (hk : 0 ≤ k) : SOk u (wrongX x k) := by
  unfold wrongX
  split
  · exact ⟨h.len, h.obs, h.nf, h.frm, hk⟩
  · exact h
theorem SOk.push {u : Unt} {x : Sx} (h : SOk u x) {v : Vl} (hv : VlW x.objs.length v) : SOk u (pushX x v) := by
  unfold pushX
  split
  · exact h.stuck
  · refine ⟨h.len, h.obs, h.nf, h.frm.stk (by simp; omega) (fun w hw => ?_), h.ft⟩
    simp only [List.mem_append, List.mem_singleton] at hw
    rcases hw with hw | rfl
    · exact h.frm.2.2.2.2.2 w hw
    · exact hv
theorem SOk.thing {u : Unt} {x : Sx} (h : SOk u x) {n k : Int} : SOk u (thingX u x n k) := by
  unfold thingX
  split
  · exact h
  · split
    · exact h.wrong (by omega)
    · split
      · exact h.stuck
      · exact h
theorem XM.mono {h0 h h' : Heap} {bx : Nat} {us : List Value} {u : Unt} {M : Mch} {sk : Bool} {ft : Int} {B : List Nat} (hX : XM h0 h bx us u M sk ft B) (hl : h.le h') : XM h0 h' bx us u M sk ft B ∧ Ev h h' (bx :: B) (bx :: B) ∧ rd h' bx 3 = rd h bx 3 := by
  obtain ⟨_, _, _, ⟨p, c, r3⟩, _⟩ := hX.rds
  exact ⟨⟨hX.ma.mono hl, hX.un⟩, Ev.of_le hl _ (fun b hb => .inl hb), by rw [r3, rd_le hl r3]⟩
theorem word_x {h0 h : Heap} {bx : Nat} {us : List Value} {u : Unt} {x : Sx} {B : List Nat} (hX : XS h0 h bx us u x B) (hs : SOk u x) :
    Rets Tryz.prog 219 [.pointer (some ⟨bx, 0, none⟩)] h fun v h' => v = .int .i64 (wordX x).1 ∧ XR h0 h bx us u B (wordX x).2 h' := by
  have hpop := pop_x hX (by have := hs.nf; omega) (by have := hs.frm.2.2.2.1; omega)
  refine rets Tryz.sigOk Tryz.func219 Tryz.F219 Tryz.ok219 rfl ?_
  conv => whnf
  refine call_r hpop (fun v h1 hh => ?_)
  have hv := hh.1
  subst hv
  refine hh.2.elim fun B1 hh1 => ?_
  have hX1 := hh1.1
  conv => whnf
  refine selB (fun g => ?_) (fun g => ?_)
  all_goals conv => whnf
  · refine hX1.stuck (fun h2 hX2 ev2 e2 => ?_)
    conv => whnf
    unfold wordX
    rw [if_pos g]
    exact ⟨rfl, B1, hX2, hh1.2.1.trans ev2, e2.trans hh1.2.2⟩
  · unfold wordX
    rw [if_neg (by rw [g]; simp)]
    exact ⟨rfl, B1, hX1, hh1.2⟩
theorem ref_x {h0 h : Heap} {bx : Nat} {us : List Value} {u : Unt} {x : Sx} {B : List Nat} (hX : XS h0 h bx us u x B) (hs : SOk u x) :
    Rets Tryz.prog 169 [.pointer (some ⟨bx, 0, none⟩)] h fun v h' => v = .int .i64 (refX x).1 ∧ XR h0 h bx us u B (refX x).2 h' := by
  have hpop := pop_x hX (by have := hs.nf; omega) (by have := hs.frm.2.2.2.1; omega)
  refine rets Tryz.sigOk Tryz.func169 Tryz.F169 Tryz.ok169 rfl ?_
  conv => whnf
  refine call_r hpop (fun v h1 hh => ?_)
  have hv := hh.1
  subst hv
  refine hh.2.elim fun B1 hh1 => ?_
  have hX1 := hh1.1
  conv => whnf
  refine selNB (fun g => ?_) (fun g => ?_)
  all_goals conv => whnf
  · refine hX1.stuck (fun h2 hX2 ev2 e2 => ?_)
    conv => whnf
    unfold refX
    rw [if_neg (by rw [g]; simp)]
    exact ⟨rfl, B1, hX2, hh1.2.1.trans ev2, e2.trans hh1.2.2⟩
  · unfold refX
    rw [if_pos g]
    exact ⟨rfl, B1, hX1, hh1.2⟩
theorem wrong_x {h0 h : Heap} {bx : Nat} {us : List Value} {u : Unt} {x : Sx} {B : List Nat} (hX : XS h0 h bx us u x B) (k : Int) :
    Rets Tryz.prog 170 [.pointer (some ⟨bx, 0, none⟩), .int .i64 k] h fun _ h' => XR h0 h bx us u B (wrongX x k) h' := by
  obtain ⟨_, r10, _⟩ := hX.rds
  refine rets Tryz.sigOk Tryz.func170 Tryz.F170 Tryz.ok170 rfl ?_
  conv => whnf
  refine ld r10 ?_
  conv => whnf
  refine selP (fun g => ?_) (fun g => ?_)
  all_goals conv => whnf
  · refine hX.fault (fun h2 hX2 ev2 e2 => ?_)
    conv => whnf
    unfold wrongX
    rw [if_pos g]
    exact ⟨B, hX2, ev2, e2⟩
  · unfold wrongX
    rw [if_neg g]
    exact ⟨B, hX, Ev.refl _ _, rfl⟩
theorem XS.objAt {h0 h : Heap} {bx : Nat} {us : List Value} {u : Unt} {x : Sx} {B : List Nat} (hX : XS h0 h bx us u x B) {n : Int} (h1 : 0 < n) (h2 : n ≤ x.objs.length) :
    ∃ bo c v Bi, rd h bx 2 = some (.slice (some ⟨bo, 0, none⟩) x.objs.length c) ∧ rd h bo (0 + (n - 1).toNat * 2) = some (.int .i64 (objN x.objs n).cls) ∧ rd h bo (0 + (n - 1).toNat * 2 + 1) = some v ∧ OwnV h v (objN x.objs n).vals Bi ∧
      ∀ h' vals', OwnV h' v vals' Bi → (∀ b, b ∉ Bi → h b ≠ none → h' b = h b) → XR h0 h bx us u B { x with objs := putOb x.objs n vals' } h' := by
  have hi : (n - 1).toNat < x.objs.length := by omega
  obtain ⟨bo, c, tm, vf, vs, q, r, t, v, Bi, hb, hbo, hq, ov, hbi, hboB, hbm, reb⟩ := hX.ma.obj (split_at x.objs hi)
  have hti : (x.objs.take (n - 1).toNat).length = (n - 1).toNat := by simp; omega
  have hob : objN x.objs n = x.objs[(n - 1).toNat] := objN_eq hi (by omega)
  refine ⟨bo, c, v, Bi, rd_mid hb (i := 0) (by rw [hX.us2]) rfl, by rw [hob]; exact rd_mid hbo (i := 0) (by omega) rfl, rd_mid hbo (i := 1) (by omega) rfl, by rw [hob]; exact ov, fun h' vals' k1 k2 => ?_⟩
  obtain ⟨B', hM', hmem⟩ := reb h' vals' k1 k2
  have hset : putOb x.objs n vals' = x.objs.take (n - 1).toNat ++ { x.objs[(n - 1).toNat] with vals := vals' } :: x.objs.drop ((n - 1).toNat + 1) := by
    unfold putOb
    rw [hob, List.set_eq_take_append_cons_drop, if_pos hi]
  have hbx : h' bx = h bx := by
    refine k2 bx (fun hx => ?_) (by rw [hb]; simp)
    exact hbm (hbi _ hx).1
  refine ⟨B', ⟨?_, hX.un⟩, ⟨fun b hb1 hb2 => k2 b (fun hx => hb2 (by simp [(hbi b hx).1])) hb1, fun b hb1 => .inl ((hmem b).1 hb1)⟩, by unfold rd; rw [hbx]⟩
  show MaH h0 h' bx us _ ⟨putOb x.objs n vals', _, _, _, _, _⟩ B'
  rw [hset]
  exact hM'
theorem thing_x {h0 h : Heap} {bx : Nat} {us : List Value} {u : Unt} {x : Sx} {B : List Nat} (hX : XS h0 h bx us u x B) (hs : SOk u x) (ok : CsOk u.classes) (n k : Int) (hn : 0 ≤ n ∧ n ≤ x.objs.length) (hk : -2 ≤ k) :
    Rets Tryz.prog 218 [.pointer (some ⟨bx, 0, none⟩), .int .i64 n, .int .i64 k] h fun v h' => XR h0 h bx us u B (thingX u x n k) h' ∧ (∃ bn on, v = .pointer (some ⟨bn, on, none⟩)) ∧
      (¬ (thingX u x n k).bad → 0 < n ∧ thingX u x n k = x ∧ ∃ bo c, rd h' bx 2 = some (.slice (some ⟨bo, 0, none⟩) x.objs.length c) ∧ v = .pointer (some ⟨bo, 0 + (n - 1).toNat * 2, none⟩)) := by
  obtain ⟨r9, r10, _, _, _, p, cc, q, d, rfl, r0, r1, r01, hcs, hms⟩ := hX.rds
  have hl := hs.len.2
  by_cases hbad : x.bad
  · have hth : thingX u x n k = x := if_pos hbad
    rw [hth]
    refine rets Tryz.sigOk Tryz.func218 Tryz.F218 Tryz.ok218 rfl ?_
    conv => whnf
    refine new' [.int .i64 0, .slice none 0 0] rfl (fun bn h1 hb1 e1 l1 g1 => ?_)
    have hm := hX.mono l1
    have hX1 : XS h0 h1 bx _ u x B := hm.1
    have r9' := rd_le l1 r9
    have r10' := rd_le l1 r10
    conv => whnf
    refine ld r9' ?_
    conv => whnf
    have fin : XR h0 h bx [.slice p u.classes.length cc, .slice q u.methods.length d] u B x h1 := ⟨B, hX1, hm.2⟩
    refine selB (fun g => ?_) (fun g => ?_)
    all_goals conv => whnf
    · exact ⟨fin, ⟨_, _, rfl⟩, fun hx => absurd hbad hx⟩
    · have hft : 0 < x.ft := by
        rcases hbad with hb | hb
        · rw [g] at hb; cases hb
        · exact hb
      refine ld r10' ?_
      conv => whnf
      refine selPt hft ?_
      conv => whnf
      exact ⟨fin, ⟨_, _, rfl⟩, fun hx => absurd hbad hx⟩
  have hst : x.st = false := by
    cases hh : x.st with
    | false => rfl
    | true => exact absurd (.inl hh) hbad
  have hft : x.ft = 0 := by
    have := hs.ft
    have : ¬ 0 < x.ft := fun hx => hbad (.inr hx)
    omega
  rw [hst] at r9
  rw [hft] at r10
  by_cases hn0 : n = 0
  · have hth : thingX u x n k = wrongX x 2 := by unfold thingX; rw [if_neg hbad, if_pos hn0]
    have hwb : (wrongX x 2).bad := .inr (by unfold wrongX; rw [if_pos hft]; show (0 : Int) < 2; omega)
    rw [hth]
    refine rets Tryz.sigOk Tryz.func218 Tryz.F218 Tryz.ok218 rfl ?_
    conv => whnf
    refine new' [.int .i64 0, .slice none 0 0] rfl (fun bn h1 hb1 e1 l1 g1 => ?_)
    have hm := hX.mono l1
    have hX1 : XS h0 h1 bx _ u x B := hm.1
    have r9' := rd_le l1 r9
    have r10' := rd_le l1 r10
    conv => whnf
    repeat' ((first | refine ld r9' ?_ | refine ld r10' ?_ | refine ob (by omega) ?_ | refine ar_in (by omega) (by omega) ?_ | refine ptr ?_) <;> conv => whnf)
    refine selPt hn0 ?_
    conv => whnf
    refine call_r (wrong_x hX1 2) (fun v h2 hh => ?_)
    conv => whnf
    exact ⟨hh.trans hm.2.1 hm.2.2, ⟨_, _, rfl⟩, fun hx => absurd hwb hx⟩
  have hob := hX.objAt (n := n) (by omega) hn.2
  obtain ⟨bo, c, v, Bi, q2, q3, _, _, _⟩ := hob
  have hO := hs.obs _ (objN_in (objs := x.objs) (n := n) (by omega) hn.2)
  have hcl : -2 ≤ (objN x.objs n).cls ∧ (objN x.objs n).cls < u.classes.length := by
    rcases hO.2 with ⟨h2, _⟩ | ⟨h2, h3, _⟩
    · have := ok.1; omega
    · omega
  have hth : thingX u x n k = if isBad u (objN x.objs n).cls k = true then { x with st := true } else x := by unfold thingX; rw [if_neg hbad, if_neg hn0]
  generalize (objN x.objs n).cls = cl at q3 hcl hth
  have hb1 : isBad u cl k = true → thingX u x n k = { x with st := true } := fun hx => by rw [hth, if_pos hx]
  have hb2 : isBad u cl k = false → thingX u x n k = x := fun hx => by rw [hth, if_neg (by rw [hx]; simp)]
  have hup := fun (h1 : Heap) (l1 : h.le h1) (c0 : 0 ≤ cl) (k0 : 0 ≤ k) => l2Up_c p u.classes.length cc u.classes cl k h1 (hcs.le l1 (fun _ _ hx => hx.le l1)) ok (by omega) (by omega) k0
  refine rets Tryz.sigOk Tryz.func218 Tryz.F218 Tryz.ok218 rfl ?_
  conv => whnf
  refine new' [.int .i64 0, .slice none 0 0] rfl (fun bn h1 hb3 e1 l1 g1 => ?_)
  have hm := hX.mono l1
  have hX1 : XS h0 h1 bx _ u x B := hm.1
  have r9' := rd_le l1 r9
  have r10' := rd_le l1 r10
  have r0' := rd_le l1 r0
  have q2' := rd_le l1 q2
  have q3' := rd_le l1 q3
  have bad : isBad u cl k = true → ∀ K : Heap → Prop, (∀ h2, (XR h0 h bx [.slice p u.classes.length cc, .slice q u.methods.length d] u B (thingX u x n k) h2 ∧ (thingX u x n k).bad) → K h2) → St h1 bx 9 [.bool true] K := fun hx K hk =>
    hX1.stuck (fun h2 hX2 ev2 e2 => hk h2 (by rw [hb1 hx]; exact ⟨⟨B, hX2, hm.2.1.trans ev2, e2.trans hm.2.2⟩, .inl rfl⟩))
  have good : isBad u cl k = false → XR h0 h bx [.slice p u.classes.length cc, .slice q u.methods.length d] u B (thingX u x n k) h1 ∧ thingX u x n k = x := fun hx => by rw [hb2 hx]; exact ⟨⟨B, hX1, hm.2⟩, rfl⟩
  have hidx : 0 + ((n : Int) - 1).toNat * 2 = 0 + (n - 1).toNat * 2 := rfl
  clear hb1 hb2 hth hO
  conv => whnf
  repeat' ((first | refine ld r9' ?_ | refine ld r10' ?_ | refine ob (by omega) ?_ | refine ar_in (by omega) (by omega) ?_ | refine ptr ?_) <;> conv => whnf)
  refine selPf hn0 ?_
  conv => whnf
  repeat' ((first | refine ld q2' ?_ | refine ob (by omega) ?_ | refine ar_in (by omega) (by omega) ?_ | refine ptr ?_) <;> conv => whnf)
  refine selP (fun gk => ?_) (fun gk => ?_)
  all_goals conv => whnf
  · repeat' ((first | refine ld q3' ?_ | refine ob (by omega) ?_ | refine ar_in (by omega) (by omega) ?_ | refine ptr ?_) <;> conv => whnf)
    refine selNP (fun g => ?_) (fun g => ?_)
    all_goals conv => whnf
    · refine bad (by simp [isBad, gk, g]) _ (fun h2 hh => ?_)
      conv => whnf
      exact ⟨hh.1, ⟨_, _, rfl⟩, fun hx => absurd hh.2 hx⟩
    · repeat' ((first | refine selPf (by omega) ?_ | refine selPt (by omega) ?_) <;> conv => whnf)
      have hg := good (by simp [isBad, g]; omega)
      exact ⟨hg.1, ⟨_, _, rfl⟩, fun _ => ⟨by omega, hg.2, bo, c, q2', rfl⟩⟩
  · repeat' ((first | refine selPf (by omega) ?_ | refine selPt (by omega) ?_) <;> conv => whnf)
    repeat' ((first | refine ld q3' ?_ | refine ob (by omega) ?_ | refine ar_in (by omega) (by omega) ?_ | refine ptr ?_) <;> conv => whnf)
    refine selP (fun gc => ?_) (fun gc => ?_)
    all_goals conv => whnf
    · repeat' ((first | refine ld r0' ?_ | refine ld q3' ?_ | refine ob (by omega) ?_ | refine ar_in (by omega) (by omega) ?_ | refine ptr ?_) <;> conv => whnf)
      refine callX_p (hup h1 l1 gc (by omega)) ?_
      conv => whnf
      refine selNB (fun g => ?_) (fun g => ?_)
      all_goals conv => whnf
      · refine bad (by simp [isBad, g]; omega) _ (fun h2 hh => ?_)
        conv => whnf
        exact ⟨hh.1, ⟨_, _, rfl⟩, fun hx => absurd hh.2 hx⟩
      · have hg := good (by simp [isBad, g]; omega)
        exact ⟨hg.1, ⟨_, _, rfl⟩, fun _ => ⟨by omega, hg.2, bo, c, q2', rfl⟩⟩
    · repeat' ((first | refine selPf (by omega) ?_ | refine selPt (by omega) ?_) <;> conv => whnf)
      refine bad (by simp [isBad]; omega) _ (fun h2 hh => ?_)
      conv => whnf
      exact ⟨hh.1, ⟨_, _, rfl⟩, fun hx => absurd hh.2 hx⟩
end Go.Proofs
namespace Go.Proofs
open Go.Vc
set_option maxRecDepth 100000
set_option maxHeartbeats 4000000
theorem l13Int_c (n : Int) (h : Heap) : Pure Tryz.prog 166 [.int .i64 n] h (vlV ⟨false, n⟩) := by
  refine pur Tryz.sigOk Tryz.func166 Tryz.F166 Tryz.ok166 rfl ?_
  conv => whnf
  exact ⟨rfl, rfl⟩
theorem l13Ref_c (n : Int) (h : Heap) : Pure Tryz.prog 175 [.int .i64 n] h (vlV ⟨true, n⟩) := by
  refine pur Tryz.sigOk Tryz.func175 Tryz.F175 Tryz.ok175 rfl ?_
  conv => whnf
  exact ⟨rfl, rfl⟩
theorem l13Nothing_c (t : Int) (h : Heap) : Pure Tryz.prog 249 [.int .i64 t] h (vlV (nothing t)) := by
  refine pur Tryz.sigOk Tryz.func249 Tryz.F249 Tryz.ok249 rfl ?_
  conv => whnf
  exact ⟨rfl, rfl⟩
theorem made_x {h0 h : Heap} {bx : Nat} {us : List Value} {u : Unt} {x : Sx} {B : List Nat} (hX : XS h0 h bx us u x B) (hs : SOk u x) (o : Ob) {v : Value} {Bv : List Nat} (ho : OwnV h v o.vals Bv) (hBv : ∀ b ∈ Bv, b ∉ bx :: B ∧ h0 b = none) :
    Rets Tryz.prog 250 [.pointer (some ⟨bx, 0, none⟩), .agg #[.int .i64 o.cls, v]] h fun _ h' => ∃ B', XS h0 h' bx us u (madeX x o) B' ∧ Ev h h' ((bx :: B) ++ Bv) (bx :: B') ∧ rd h' bx 3 = rd h bx 3 := by
  obtain ⟨r9, r10, ⟨p2, c2, r2⟩, _, _, p, cc, q, d, rfl, r0, r1, r01, hcs, hms⟩ := hX.rds
  have hl := hs.len.2
  have evr : Ev h h ((bx :: B) ++ Bv) (bx :: B) := ⟨fun _ _ _ => rfl, fun b hb => .inl (List.mem_append.2 (.inl hb))⟩
  have hform := ho.form
  obtain ⟨pv, cv, rfl, _⟩ := hform
  by_cases hbad : x.bad
  · have hth : madeX x o = x := if_pos hbad
    rw [hth]
    refine rets Tryz.sigOk Tryz.func250 Tryz.F250 Tryz.ok250 rfl ?_
    conv => whnf
    refine ld r9 ?_
    conv => whnf
    refine selB (fun g => ?_) (fun g => ?_)
    all_goals conv => whnf
    · exact ⟨B, hX, evr, rfl⟩
    · have hft : 0 < x.ft := by
        rcases hbad with hb | hb
        · rw [g] at hb; cases hb
        · exact hb
      refine ld r10 ?_
      conv => whnf
      refine selPt hft ?_
      conv => whnf
      exact ⟨B, hX, evr, rfl⟩
  have hst : x.st = false := by
    cases hh : x.st with
    | false => rfl
    | true => exact absurd (.inl hh) hbad
  have hft : x.ft = 0 := by
    have := hs.ft
    have : ¬ 0 < x.ft := fun hx => hbad (.inr hx)
    omega
  have hmd : madeX x o = pushX { x with objs := x.objs ++ [o] } ⟨true, x.objs.length + 1⟩ := if_neg hbad
  rw [hmd]
  have hX0 := hX
  have hst0 := hst
  have hft0 := hft
  rw [hst] at r9
  rw [hft] at r10
  obtain ⟨t, po, co, vf, vs, hb, grow⟩ := hX.ma.growO (show x.mch.objs.length ≤ 1000 by show x.objs.length ≤ 1000; omega)
  have r2' : rd h bx 2 = some (.slice po x.objs.length co) := rd_mid hb (i := 0) rfl rfl
  have r3' : rd h bx 3 = some vf := rd_mid hb (i := 1) rfl rfl
  refine rets Tryz.sigOk Tryz.func250 Tryz.F250 Tryz.ok250 rfl ?_
  conv => whnf
  repeat' ((first | refine ld r9 ?_ | refine ld r10 ?_ | refine ob (by omega) ?_ | refine ar_in (by omega) (by omega) ?_ | refine ptr ?_) <;> conv => whnf)
  repeat' ((first | exact trivial | refine ld r2' ?_ | refine And.intro ?_ ?_) <;> conv => whnf)
  all_goals
    refine grow o Bv _ _ ⟨_, rfl, ho⟩ ho.nd hBv rfl rfl rfl rfl (by simp) ?_
    rintro p' c' h2 e1 e2 e3 ⟨B', hM3, ev3⟩
    have hb2 := e1.trans hb
    conv => whnf
    refine st1h hb2 (i := 0) (mcells (.slice p' (x.mch.objs.length + 1) c') vf vs x.mch) rfl (by simp [mcells]) (by rfl) (fun h3 e4 g4 => ?_)
    have hX3 : XS h0 h3 bx [.slice p u.classes.length cc, .slice q u.methods.length d] u { x with objs := x.objs ++ [o] } B' := ⟨by rw [e4]; exact hM3, hX.un⟩
    have q2 : rd h3 bx 2 = some (.slice p' (x.objs.length + 1) c') := rd_mid g4 (i := 0) rfl rfl
    have q3 : rd h3 bx 3 = some vf := rd_mid g4 (i := 1) rfl rfl
    rw [← e4] at ev3
    conv => whnf
    refine ld q2 ?_
    conv => whnf
    refine call_p (l13Ref_c _ _) ?_
    conv => whnf
    refine call_r (push_x hX3 (by have := hs.nf; show x.fs.length ≤ 1000; omega) (by have := hs.frm.2.2.2.1; show x.f.stack.length ≤ 1000; omega) ⟨true, ((x.objs.length + 1 : Nat) : Int)⟩) (fun v h4 hh => ?_)
    conv => whnf
    refine hh.elim fun B4 hh => ?_
    exact ⟨B4, hh.1, ev3.trans hh.2.1, by rw [hh.2.2, q3, r3']⟩
theorem fresh_x {h0 h : Heap} {bx : Nat} {us : List Value} {u : Unt} {x : Sx} {B : List Nat} (hX : XS h0 h bx us u x B) (hs : SOk u x) (ok : CsOk u.classes) (k : Int) (hk : 0 ≤ k ∧ k < u.classes.length) :
    Rets Tryz.prog 221 [.pointer (some ⟨bx, 0, none⟩), .int .i64 k] h fun _ h' => XR h0 h bx us u B (freshX u x k) h' := by
  have hin := hX.ma.in
  have hle := hX.ma.le
  obtain ⟨r9, r10, _, _, _, p, cc, q, d, rfl, r0, r1, r01, hcs, hms⟩ := hX.rds
  have hflen := flds_len' ok hk.2
  refine rets Tryz.sigOk Tryz.func221 Tryz.F221 Tryz.ok221 rfl ?_
  conv => whnf
  refine ld r0 ?_
  conv => whnf
  refine call_r (l2Fields_c (k.toNat + 1) p u.classes.length cc u.classes k h hcs ok hk.1 hk.2 (by omega)) (fun v h1 hh => ?_)
  refine hh.2.elim fun Bt hh2 => ?_
  have ot := hh2.1
  have nt := hh2.2
  have l01 := hh.1
  have hf := ot.form
  refine hf.elim fun pt hf => hf.elim fun ct hf => ?_
  have hv := hf.1
  subst hv
  have hfr : freshX u x k = madeX x ⟨k, (flds u.classes k).map nothing⟩ := rfl
  rw [hfr]
  generalize flds u.classes k = types at ot hflen hfr ⊢
  have hlt := len_map int1 types
  conv => whnf
  refine lps [0, 4, 5, 6] [5] (fun s : Nat × Heap × Option Addr × Nat × List Nat => s.1 ≤ types.length ∧ h1.le s.2.1 ∧ OwnV s.2.1 (.slice s.2.2.1 s.1 s.2.2.2.1) ((types.take s.1).map nothing) s.2.2.2.2 ∧ ∀ b ∈ s.2.2.2.2, h1 b = none) (fun s => types.length - s.1)
    (fun s => ([.v (.pointer (some ⟨bx, 0, none⟩)), .v (.slice pt (types.map int1).length ct), .l 5 0, .v (.int .i64 s.1)], [some [.int .i64 k, .slice s.2.2.1 s.1 s.2.2.2.1]], s.2.1))
    (0, h1, none, 0, []) ⟨by omega, Heap.le_refl h1, ⟨by simp, .inl ⟨rfl, by simp, rfl⟩⟩, by simp⟩ rfl ?_
  rintro ⟨i, h2, pp, c, Bv⟩ ⟨hi, l1, ov, nv⟩
  simp only at hi l1 ov nv ⊢
  conv => whnf
  refine selP (fun g => ?_) (fun g => ?_)
  all_goals conv => whnf
  · have hil : i < types.length := by omega
    have e := (show OwnI h2 (.slice pt (types.map int1).length ct) types Bt from ot.keep (Keep.of_le l1 _)).nth (i := i) (by simpa using hil)
    obtain ⟨b, hq, e1, _⟩ := e
    rw [List.getElem_map] at e1
    have e2 : rd h2 b (0 + i * 1) = some (.int .i64 types[i]) := by simpa using rdn_get e1 (i := 0) rfl
    refine ob (by omega) ?_
    conv => whnf
    refine ptr' hq ?_
    conv => whnf
    refine ld e2 ?_
    conv => whnf
    repeat' ((first | exact trivial | refine callX_p (l13Nothing_c _ _) ?_ | refine And.intro ?_ ?_) <;> conv => whnf)
    all_goals
      have hti : ((types.take i).map nothing).length = i := by simp; omega
      refine app_own (h0 := h1) (ys := [vl2 (nothing types[i])]) ov nv l1 rfl rfl (by simp [vl2]) rfl rfl (by simp; omega) (by simp; omega) ?_
      intro v' h3 B2 g1 g2 g3 g4 g5
      have g2' : OwnV h3 v' ((types.take (i + 1)).map nothing) B2 := by
        unfold OwnV
        rw [← List.take_append_getElem hil, List.map_append, List.map_append]
        exact g2
      obtain ⟨p', c', rfl, _⟩ := g2'.form
      have hti2 : (((types.take (i + 1)).map nothing).map vl2).length = i + 1 := by simp; omega
      rw [hti2] at g2' ⊢
      conv => whnf
      refine ar_in (by omega) (by omega) ?_
      conv => whnf
      exact lpn (i + 1, h3, p', c', B2) ⟨by omega, g1, g2', g3⟩ (by simp only; omega) rfl
  · have hie : i = types.length := by omega
    subst hie
    rw [List.take_length] at ov
    have hm := hX.mono (Heap.le_trans l01 l1)
    have hfree : ∀ b, h1 b = none → h b = none := fun b hb => by
      cases hh : h b with
      | none => rfl
      | some o => rw [l01 b o hh] at hb; cases hb
    have hfresh : ∀ b ∈ Bv, b ∉ bx :: B ∧ h0 b = none := by
      intro b hb'
      have hn := hfree b (nv b hb')
      refine ⟨fun hx => ?_, ?_⟩
      · obtain ⟨o, ho⟩ := hin b hx; rw [hn] at ho; cases ho
      · cases hh : h0 b with
        | none => rfl
        | some o => rw [hle b o hh] at hn; cases hn
    refine call_r (made_x hm.1 hs ⟨k, types.map nothing⟩ ov hfresh) (fun v h3 hh => ?_)
    conv => whnf
    refine hh.elim fun B3 hh => ?_
    refine ⟨B3, hh.1, ?_, hh.2.2.trans hm.2.2⟩
    have := (Ev.of_le (Heap.le_trans l01 l1) ((bx :: B) ++ Bv) (S := bx :: B) (fun b hb' => (List.mem_append.1 hb').imp id (fun hx => hfree b (nv b hx)))).trans hh.2.1
    exact this
end Go.Proofs
namespace Go.Proofs
open Go.Vc
set_option maxRecDepth 100000
set_option maxHeartbeats 4000000
theorem op_x {h0 h : Heap} {bx : Nat} {us : List Value} {u : Unt} {x : Sx} {B : List Nat} (hX : XS h0 h bx us u x B) (hs : SOk u x) (op : Int) :
    Rets Tryz.prog 220 [.pointer (some ⟨bx, 0, none⟩), .int .i64 op] h fun _ h' => XR h0 h bx us u B (opX x op) h' := by
  have hs1 := hs.word.1
  have hs2 := hs1.word.1
  refine rets Tryz.sigOk Tryz.func220 Tryz.F220 Tryz.ok220 rfl ?_
  conv => whnf
  refine call_r (word_x hX hs) (fun v h1 hh => ?_)
  have hv := hh.1
  subst hv
  refine hh.2.elim fun B1 hh1 => ?_
  conv => whnf
  refine call_r (word_x hh1.1 hs1) (fun v h2 hh => ?_)
  have hv := hh.1
  subst hv
  refine hh.2.elim fun B2 hh2 => ?_
  have ev2 := hh1.2.1.trans hh2.2.1
  have e2 := hh2.2.2.trans hh1.2.2
  have hX2 := hh2.1
  conv => whnf
  refine call_p (sIntDo_c _ _ _ _) ?_
  unfold prI
  conv => whnf
  refine selNB (fun g => ?_) (fun g => ?_)
  all_goals conv => whnf
  · refine call_r (wrong_x hX2 1) (fun v h3 hh => ?_)
    conv => whnf
    have hop : opX x op = wrongX (wordX (wordX x).2).2 1 := if_neg (by rw [g]; simp)
    rw [hop]
    exact hh.trans ev2 e2
  · refine call_p (l13Int_c _ _) ?_
    conv => whnf
    refine call_r (push_x hX2 (by have := hs2.nf; omega) (by have := hs2.frm.2.2.2.1; omega) ⟨false, (intDo op (wordX (wordX x).2).1 (wordX x).1).1⟩) (fun v h3 hh => ?_)
    conv => whnf
    have hop : opX x op = pushX (wordX (wordX x).2).2 ⟨false, (intDo op (wordX (wordX x).2).1 (wordX x).1).1⟩ := if_pos g
    rw [hop]
    exact hh.trans ev2 e2
theorem array_x {h0 h : Heap} {bx : Nat} {us : List Value} {u : Unt} {x : Sx} {B : List Nat} (hX : XS h0 h bx us u x B) (hs : SOk u x) (k : Int) (hk : k = 0 ∨ k = 1) :
    Rets Tryz.prog 222 [.pointer (some ⟨bx, 0, none⟩), .int .i64 k] h fun _ h' => XR h0 h bx us u B (arrayX x k) h' := by
  have hin := hX.ma.in
  have hle := hX.ma.le
  have hs1 := hs.word.1
  have hwd := hs.word.2
  have har : arrayX x k = madeX (if 0 ≤ (wordX x).1 ∧ (wordX x).1 ≤ 6 then (wordX x).2 else wrongX (wordX x).2 4) (arrX k (wordX x).1) := rfl
  rw [har]
  refine rets Tryz.sigOk Tryz.func222 Tryz.F222 Tryz.ok222 rfl ?_
  conv => whnf
  refine call_r (word_x hX hs) (fun v h1 hh => ?_)
  have hv := hh.1
  subst hv
  refine hh.2.elim fun B1 hh1 => ?_
  have hX1 := hh1.1
  have ev1 := hh1.2.1
  have e1 := hh1.2.2
  conv => whnf
  refine call_p (l6In_c _ _ _ _) ?_
  conv => whnf
  refine selNP (fun g => ?_) (fun g => ?_)
  all_goals conv => whnf
  · refine call_r (wrong_x hX1 4) (fun v h2 hh => ?_)
    refine hh.elim fun B2 hh2 => ?_
    have hX2 := hh2.1
    have ev2 := ev1.trans hh2.2.1
    have e2 := hh2.2.2.trans e1
    have hs2 := hs1.wrong (k := 4) (by omega)
    rw [if_neg g]
    conv => whnf
    have hm : (arrX k (wordX x).1).vals.length = (min (wordX x).1 6).toNat := by simp [arrX]
    have hcls : (arrX k (wordX x).1).cls = -1 - k := rfl
    generalize hwn : (wordX x).1 = n at hm hcls hwd g ⊢
    obtain ⟨m, hmm⟩ : ∃ m, m = (min n 6).toNat := ⟨_, rfl⟩
    have hvals : (arrX k n).vals = List.replicate m ⟨decide (k = 1), 0⟩ := by rw [hmm]; rfl
    refine ar_in (by omega) (by omega) ?_
    conv => whnf
    refine lps [0, 1, 4, 5, 6] [5] (fun s : Nat × Heap × Option Addr × Nat × List Nat => s.1 ≤ m ∧ h2.le s.2.1 ∧ OwnV s.2.1 (.slice s.2.2.1 s.1 s.2.2.2.1) (List.replicate s.1 ⟨decide (k = 1), 0⟩) s.2.2.2.2 ∧ ∀ b ∈ s.2.2.2.2, h2 b = none) (fun s => m - s.1)
      (fun s => ([.v (.pointer (some ⟨bx, 0, none⟩)), .v (.int .i64 k), .v (.int .i64 n), .l 5 0, .v (.int .i64 s.1)], [some [.int .i64 (-1 - k), .slice s.2.2.1 s.1 s.2.2.2.1]], s.2.1))
      (0, h2, none, 0, []) ⟨by omega, Heap.le_refl h2, ⟨by simp, .inl ⟨rfl, by simp, rfl⟩⟩, by simp⟩ rfl ?_
    rintro ⟨i, h5, pp, c, Bv⟩ ⟨hi, l1, ov, nv⟩
    simp only at hi l1 ov nv ⊢
    conv => whnf
    have step : i < m → App 16 2 [.bool false, .int .i64 0] 31 h5 pp i c 1 [.bool (decide (k = 1)), .int .i64 0] (fun v' h6 => ∃ p' c', v' = .slice p' (i + 1) c' ∧ ∃ B6, h2.le h6 ∧ OwnV h6 (.slice p' (i + 1) c') (List.replicate (i + 1) ⟨decide (k = 1), 0⟩) B6 ∧ ∀ b ∈ B6, h2 b = none) := by
      intro him
      have hli : ((List.replicate i (⟨decide (k = 1), 0⟩ : Vl)).map vl2).length = i := by simp
      refine app_own (h0 := h2) (ys := [vl2 ⟨decide (k = 1), 0⟩]) ov nv l1 rfl rfl (by simp [vl2]) rfl rfl (by simp; omega) (by simp; omega) ?_
      intro v' h6 B6 g1 g2 g3 g4 g5
      have g2' : OwnV h6 v' (List.replicate (i + 1) ⟨decide (k = 1), 0⟩) B6 := by
        unfold OwnV
        rw [List.replicate_succ', List.map_append]
        exact g2
      obtain ⟨p', c', rfl, _⟩ := g2'.form
      have hti2 : ((List.replicate (i + 1) (⟨decide (k = 1), 0⟩ : Vl)).map vl2).length = i + 1 := by simp
      rw [hti2] at g2' ⊢
      exact ⟨p', c', rfl, B6, g1, g2', g3⟩
    by_cases him : i < m
    · refine selPt (by omega) ?_
      conv => whnf
      refine selPt (by omega) ?_
      conv => whnf
      refine (step him).mono (fun v' h6 hh => ?_)
      refine hh.elim fun p' hh => hh.elim fun c' hh => ?_
      have hv := hh.1
      subst hv
      refine hh.2.elim fun B6 hh => ?_
      conv => whnf
      refine ar_in (by omega) (by omega) ?_
      conv => whnf
      exact lpn (i + 1, h6, p', c', B6) ⟨by omega, hh⟩ (by simp only; omega) rfl
    · have hie : i = m := by omega
      subst hie
      have fin : ∀ {v : Value} {h9 : Heap}, (∃ B', XS h0 h9 bx us u (madeX (wrongX (wordX x).2 4) (arrX k n)) B' ∧ Ev h5 h9 ((bx :: B2) ++ Bv) (bx :: B') ∧ rd h9 bx 3 = rd h5 bx 3) → XR h0 h bx us u B (madeX (wrongX (wordX x).2 4) (arrX k n)) h9 := by
        intro v h9 hh
        obtain ⟨B9, k1, k2, k3⟩ := hh
        obtain ⟨_, _, k4⟩ := XM.mono hX2 l1
        refine ⟨B9, k1, ev2.trans ((Ev.of_le l1 ((bx :: B2) ++ Bv) (fun b hb' => (List.mem_append.1 hb').imp id (nv b))).trans k2), k3.trans (k4.trans e2)⟩
      have hfresh : ∀ b ∈ Bv, b ∉ bx :: B2 ∧ h0 b = none := by
        intro b hb'
        have hn := nv b hb'
        refine ⟨fun hx => ?_, ?_⟩
        · obtain ⟨o, ho⟩ := hX2.ma.in b hx; rw [hn] at ho; cases ho
        · cases hh : h0 b with
          | none => rfl
          | some o => rw [hX2.ma.le b o hh] at hn; cases hn
      have ov' : OwnV h5 (.slice pp i c) (arrX k n).vals Bv := by rw [hvals]; exact ov
      have hmade := made_x (XM.mono hX2 l1).1 hs2 (arrX k n) ov' hfresh
      rw [show (arrX k n).cls = -1 - k from rfl] at hmade
      by_cases hin2 : (i : Int) < n
      · refine selPt hin2 ?_
        conv => whnf
        refine selPf (by omega) ?_
        conv => whnf
        refine call_r hmade (fun v h9 hh => ?_)
        conv => whnf
        exact fin (v := v) hh
      · refine selPf hin2 ?_
        conv => whnf
        refine call_r hmade (fun v h9 hh => ?_)
        conv => whnf
        exact fin (v := v) hh
  · rw [if_pos g]
    have hm : (arrX k (wordX x).1).vals.length = (min (wordX x).1 6).toNat := by simp [arrX]
    have hcls : (arrX k (wordX x).1).cls = -1 - k := rfl
    generalize hwn : (wordX x).1 = n at hm hcls hwd g ⊢
    obtain ⟨m, hmm⟩ : ∃ m, m = (min n 6).toNat := ⟨_, rfl⟩
    have hvals : (arrX k n).vals = List.replicate m ⟨decide (k = 1), 0⟩ := by rw [hmm]; rfl
    refine ar_in (by omega) (by omega) ?_
    conv => whnf
    refine lps [0, 1, 4, 5, 6] [5] (fun s : Nat × Heap × Option Addr × Nat × List Nat => s.1 ≤ m ∧ h1.le s.2.1 ∧ OwnV s.2.1 (.slice s.2.2.1 s.1 s.2.2.2.1) (List.replicate s.1 ⟨decide (k = 1), 0⟩) s.2.2.2.2 ∧ ∀ b ∈ s.2.2.2.2, h1 b = none) (fun s => m - s.1)
      (fun s => ([.v (.pointer (some ⟨bx, 0, none⟩)), .v (.int .i64 k), .v (.int .i64 n), .l 5 0, .v (.int .i64 s.1)], [some [.int .i64 (-1 - k), .slice s.2.2.1 s.1 s.2.2.2.1]], s.2.1))
      (0, h1, none, 0, []) ⟨by omega, Heap.le_refl h1, ⟨by simp, .inl ⟨rfl, by simp, rfl⟩⟩, by simp⟩ rfl ?_
    rintro ⟨i, h5, pp, c, Bv⟩ ⟨hi, l1, ov, nv⟩
    simp only at hi l1 ov nv ⊢
    conv => whnf
    have step : i < m → App 16 2 [.bool false, .int .i64 0] 31 h5 pp i c 1 [.bool (decide (k = 1)), .int .i64 0] (fun v' h6 => ∃ p' c', v' = .slice p' (i + 1) c' ∧ ∃ B6, h1.le h6 ∧ OwnV h6 (.slice p' (i + 1) c') (List.replicate (i + 1) ⟨decide (k = 1), 0⟩) B6 ∧ ∀ b ∈ B6, h1 b = none) := by
      intro him
      have hli : ((List.replicate i (⟨decide (k = 1), 0⟩ : Vl)).map vl2).length = i := by simp
      refine app_own (h0 := h1) (ys := [vl2 ⟨decide (k = 1), 0⟩]) ov nv l1 rfl rfl (by simp [vl2]) rfl rfl (by simp; omega) (by simp; omega) ?_
      intro v' h6 B6 g1 g2 g3 g4 g5
      have g2' : OwnV h6 v' (List.replicate (i + 1) ⟨decide (k = 1), 0⟩) B6 := by
        unfold OwnV
        rw [List.replicate_succ', List.map_append]
        exact g2
      obtain ⟨p', c', rfl, _⟩ := g2'.form
      have hti2 : ((List.replicate (i + 1) (⟨decide (k = 1), 0⟩ : Vl)).map vl2).length = i + 1 := by simp
      rw [hti2] at g2' ⊢
      exact ⟨p', c', rfl, B6, g1, g2', g3⟩
    by_cases him : i < m
    · refine selPt (by omega) ?_
      conv => whnf
      refine selPt (by omega) ?_
      conv => whnf
      refine (step him).mono (fun v' h6 hh => ?_)
      refine hh.elim fun p' hh => hh.elim fun c' hh => ?_
      have hv := hh.1
      subst hv
      refine hh.2.elim fun B6 hh => ?_
      conv => whnf
      refine ar_in (by omega) (by omega) ?_
      conv => whnf
      exact lpn (i + 1, h6, p', c', B6) ⟨by omega, hh⟩ (by simp only; omega) rfl
    · have hie : i = m := by omega
      subst hie
      have fin : ∀ {v : Value} {h9 : Heap}, (∃ B', XS h0 h9 bx us u (madeX (wordX x).2 (arrX k n)) B' ∧ Ev h5 h9 ((bx :: B1) ++ Bv) (bx :: B') ∧ rd h9 bx 3 = rd h5 bx 3) → XR h0 h bx us u B (madeX (wordX x).2 (arrX k n)) h9 := by
        intro v h9 hh
        obtain ⟨B9, k1, k2, k3⟩ := hh
        obtain ⟨_, _, k4⟩ := XM.mono hX1 l1
        refine ⟨B9, k1, ev1.trans ((Ev.of_le l1 ((bx :: B1) ++ Bv) (fun b hb' => (List.mem_append.1 hb').imp id (nv b))).trans k2), k3.trans (k4.trans e1)⟩
      have hfresh : ∀ b ∈ Bv, b ∉ bx :: B1 ∧ h0 b = none := by
        intro b hb'
        have hn := nv b hb'
        refine ⟨fun hx => ?_, ?_⟩
        · obtain ⟨o, ho⟩ := hX1.ma.in b hx; rw [hn] at ho; cases ho
        · cases hh : h0 b with
          | none => rfl
          | some o => rw [hX1.ma.le b o hh] at hn; cases hn
      have ov' : OwnV h5 (.slice pp i c) (arrX k n).vals Bv := by rw [hvals]; exact ov
      have hmade := made_x (XM.mono hX1 l1).1 hs1 (arrX k n) ov' hfresh
      rw [show (arrX k n).cls = -1 - k from rfl] at hmade
      by_cases hin2 : (i : Int) < n
      · refine selPt hin2 ?_
        conv => whnf
        refine selPf (by omega) ?_
        conv => whnf
        refine call_r hmade (fun v h9 hh => ?_)
        conv => whnf
        exact fin (v := v) hh
      · refine selPf hin2 ?_
        conv => whnf
        refine call_r hmade (fun v h9 hh => ?_)
        conv => whnf
        exact fin (v := v) hh
theorem SOk.fs1 {u : Unt} {x : Sx} (h : SOk u x) : x.fs.length ≤ 1000 := by have := h.nf; omega
theorem SOk.st1 {u : Unt} {x : Sx} (h : SOk u x) : x.f.stack.length ≤ 1000 := by have := h.frm.2.2.2.1; omega
theorem size_x {h0 h : Heap} {bx : Nat} {us : List Value} {u : Unt} {x : Sx} {B : List Nat} (hX : XS h0 h bx us u x B) (hs : SOk u x) :
    Rets Tryz.prog 223 [.pointer (some ⟨bx, 0, none⟩)] h fun _ h' => XR h0 h bx us u B (sizeX x) h' := by
  have hs1 := hs.ref
  have hsz : sizeX x = if 0 < (refX x).1 ∧ (refX x).2.st = false ∧ 0 ≤ (objN (refX x).2.objs (refX x).1).cls then { (refX x).2 with st := true } else if (refX x).1 = 0 then wrongX (refX x).2 2 else pushX (refX x).2 ⟨false, (objN (refX x).2.objs (refX x).1).vals.length⟩ := rfl
  have hol : (refX x).2.objs.length = x.objs.length := by rw [(refX_fs x).2.1]
  have hlen := hs.len.2
  rw [hsz]
  clear hsz
  have hrf := ref_x hX hs
  generalize hn : (refX x).1 = n at hs1 hrf ⊢
  generalize hy : (refX x).2 = y at hs1 hrf hol ⊢
  refine rets Tryz.sigOk Tryz.func223 Tryz.F223 Tryz.ok223 rfl ?_
  conv => whnf
  refine call_r hrf (fun v h1 hh => ?_)
  have hv := hh.1
  subst hv
  refine hh.2.elim fun B1 hh1 => ?_
  have hX1 := hh1.1
  have ev1 := hh1.2.1
  have e1 := hh1.2.2
  have r9 := hX1.rds.1
  conv => whnf
  by_cases hn0 : n = 0
  · rw [if_neg (by omega), if_pos hn0]
    refine selPf (by omega) ?_
    conv => whnf
    repeat' ((first | refine selPt (by omega) ?_ | refine selPf (by omega) ?_) <;> conv => whnf)
    refine call_r (wrong_x hX1 2) (fun v h3 hh => ?_)
    conv => whnf
    exact hh.trans ev1 e1
  · have hn1 : 0 < n := by omega
    refine (hX1.objAt hn1 (by omega)).elim fun bo hq => hq.elim fun co hq => hq.elim fun vv hq => hq.elim fun Bi hq => ?_
    have q1 := hq.1
    have q3 := hq.2.1
    have q2 := hq.2.2.1
    have ov := hq.2.2.2.1
    refine ov.form.elim fun pv hf => hf.elim fun cv hf => ?_
    have hv := hf.1
    subst hv
    have hlv := len_map vl2 (objN y.objs n).vals
    refine selPt hn1 ?_
    conv => whnf
    refine ld r9 ?_
    conv => whnf
    have push : ∀ {z : Sx}, z = pushX y ⟨false, (objN y.objs n).vals.length⟩ → Rets Tryz.prog 217 [.pointer (some ⟨bx, 0, none⟩), vlV ⟨false, ((List.map vl2 (objN y.objs n).vals).length : Int)⟩] h1 fun _ h' => XR h0 h bx us u B z h' := fun hz => by
      rw [hz, hlv]
      exact (push_x hX1 hs1.1.fs1 hs1.1.st1 _).mono (fun _ _ hh => hh.trans ev1 e1)
    refine selNB (fun g => ?_) (fun g => ?_)
    all_goals conv => whnf
    · repeat' ((first | refine ld q1 ?_ | refine ld q3 ?_ | refine ob (by omega) ?_ | refine ar_in (by omega) (by omega) ?_ | refine ptr ?_) <;> conv => whnf)
      refine selP (fun gc => ?_) (fun gc => ?_)
      all_goals conv => whnf
      · rw [if_pos ⟨hn1, g, gc⟩]
        refine hX1.stuck (fun h2 hX2 ev2 e2 => ?_)
        conv => whnf
        exact ⟨B1, hX2, ev1.trans ev2, e2.trans e1⟩
      · rw [if_neg (fun hx => gc hx.2.2), if_neg hn0]
        refine selPf hn0 ?_
        conv => whnf
        repeat' ((first | refine ld q1 ?_ | refine ld q2 ?_ | refine ob (by omega) ?_ | refine ar_in (by omega) (by omega) ?_ | refine ptr ?_) <;> conv => whnf)
        refine call_p (l13Int_c _ _) ?_
        conv => whnf
        refine call_r (push rfl) (fun v h3 hh => ?_)
        conv => whnf
        exact hh
    · rw [if_neg (fun hx => by rw [g] at hx; cases hx.2.1), if_neg hn0]
      refine selPf hn0 ?_
      conv => whnf
      repeat' ((first | refine ld q1 ?_ | refine ld q2 ?_ | refine ob (by omega) ?_ | refine ar_in (by omega) (by omega) ?_ | refine ptr ?_) <;> conv => whnf)
      refine call_p (l13Int_c _ _) ?_
      conv => whnf
      refine call_r (push rfl) (fun v h3 hh => ?_)
      conv => whnf
      exact hh
theorem l13Type_c (h : Heap) (bo n c : Nat) (k cls : Int) (hr : rd h bo (0 + (k - 1).toNat * 2) = some (.int .i64 cls)) (hk : 0 < k ∧ k ≤ n) (hn : n ≤ 1000) (hc : -2 ≤ cls ∧ cls ≤ 900) :
    Pure Tryz.prog 85 [.slice (some ⟨bo, 0, none⟩) n c, .agg #[.bool true, .int .i64 k]] h (.int .i64 (typeOf cls)) := by
  refine pur Tryz.sigOk Tryz.func85 Tryz.F85 Tryz.ok85 rfl ?_
  conv => whnf
  refine selPf (by omega) ?_
  conv => whnf
  repeat' ((first | refine ld hr ?_ | refine ob (by omega) ?_ | refine ar_in (by omega) (by omega) ?_ | refine ptr ?_) <;> conv => whnf)
  unfold typeOf
  by_cases h1 : cls = -1
  · subst h1
    repeat' ((first | refine selPt (by omega) ?_ | refine selPf (by omega) ?_ | refine selNPt (by omega) ?_ | refine selNPf (by omega) ?_ | refine selP (fun _ => ?_) (fun _ => ?_) | refine selNP (fun _ => ?_) (fun _ => ?_) | refine selB (fun _ => ?_) (fun _ => ?_) | refine selNB (fun _ => ?_) (fun _ => ?_) | refine ob (by omega) ?_ | refine ar_in (by omega) (by omega) ?_ | refine ptr ?_) <;> conv => whnf)
    exact ⟨rfl, rfl⟩
  · by_cases h2 : cls = -2
    · subst h2
      repeat' ((first | refine selPt (by omega) ?_ | refine selPf (by omega) ?_ | refine selNPt (by omega) ?_ | refine selNPf (by omega) ?_ | refine selP (fun _ => ?_) (fun _ => ?_) | refine selNP (fun _ => ?_) (fun _ => ?_) | refine selB (fun _ => ?_) (fun _ => ?_) | refine selNB (fun _ => ?_) (fun _ => ?_) | refine ob (by omega) ?_ | refine ar_in (by omega) (by omega) ?_ | refine ptr ?_) <;> conv => whnf)
      exact ⟨rfl, rfl⟩
    · rw [if_neg h1, if_neg h2]
      repeat' ((first | refine selPt (by omega) ?_ | refine selPf (by omega) ?_ | refine selNPt (by omega) ?_ | refine selNPf (by omega) ?_ | refine selP (fun _ => ?_) (fun _ => ?_) | refine selNP (fun _ => ?_) (fun _ => ?_) | refine selB (fun _ => ?_) (fun _ => ?_) | refine selNB (fun _ => ?_) (fun _ => ?_) | refine ob (by omega) ?_ | refine ar_in (by omega) (by omega) ?_ | refine ptr ?_ | refine ld hr ?_) <;> conv => whnf)
      all_goals first | (exfalso; omega) | exact ⟨rfl, rfl⟩
theorem cast_x {h0 h : Heap} {bx : Nat} {us : List Value} {u : Unt} {x : Sx} {B : List Nat} (hX : XS h0 h bx us u x B) (hs : SOk u x) (ok : CsOk u.classes) (k : Int) (hk : 0 ≤ k ∧ k < u.classes.length) :
    Rets Tryz.prog 226 [.pointer (some ⟨bx, 0, none⟩), .int .i64 k] h fun _ h' => XR h0 h bx us u B (castX u x k) h' := by
  have hs1 := hs.ref
  have hsz : castX u x k = if (refX x).2.st = true then (refX x).2 else if 0 < (refX x).1 ∧ tyIn u.classes (typeOf (objN (refX x).2.objs (refX x).1).cls) (8 + k) = false then wrongX (refX x).2 5 else pushX (refX x).2 ⟨true, (refX x).1⟩ := rfl
  have hol : (refX x).2.objs.length = x.objs.length := by rw [(refX_fs x).2.1]
  have hlen := hs.len.2
  have hc5 := ok.2.1
  rw [hsz]
  clear hsz
  have hrf := ref_x hX hs
  generalize hn : (refX x).1 = n at hs1 hrf ⊢
  generalize hy : (refX x).2 = y at hs1 hrf hol ⊢
  refine rets Tryz.sigOk Tryz.func226 Tryz.F226 Tryz.ok226 rfl ?_
  conv => whnf
  refine call_r hrf (fun v h1 hh => ?_)
  have hv := hh.1
  subst hv
  refine hh.2.elim fun B1 hh1 => ?_
  have hX1 := hh1.1
  have ev1 := hh1.2.1
  have e1 := hh1.2.2
  refine hX1.rds.2.2.2.2.2.elim fun p hr => hr.elim fun cc hr => hr.elim fun q hr => hr.elim fun d hr => ?_
  have r9 := hX1.rds.1
  have r0 := hr.2.1
  have hcs := hr.2.2.2.2.1
  conv => whnf
  refine ld r9 ?_
  conv => whnf
  refine selB (fun g => ?_) (fun g => ?_)
  all_goals conv => whnf
  · rw [if_pos g]
    exact ⟨B1, hX1, ev1, e1⟩
  rw [if_neg (by rw [g]; simp)]
  by_cases hn0 : n = 0
  · rw [if_neg (by omega)]
    refine selPf (by omega) ?_
    conv => whnf
    refine call_p (l13Ref_c _ _) ?_
    conv => whnf
    refine call_r (push_x hX1 hs1.1.fs1 hs1.1.st1 ⟨true, n⟩) (fun v h3 hh => ?_)
    conv => whnf
    exact hh.trans ev1 e1
  · have hn1 : 0 < n := by omega
    refine (hX1.objAt hn1 (by omega)).elim fun bo hq => hq.elim fun co hq => hq.elim fun vv hq => hq.elim fun Bi hq => ?_
    have q1 := hq.1
    have q3 := hq.2.1
    have hO := hs1.1.obs _ (objN_in (objs := y.objs) hn1 (by omega))
    have hcl : -2 ≤ (objN y.objs n).cls ∧ (objN y.objs n).cls < u.classes.length := by
      rcases hO.2 with ⟨h2, _⟩ | ⟨h2, h3, _⟩
      · have := ok.1; omega
      · omega
    have hty := l13Type_c h1 bo y.objs.length co n (objN y.objs n).cls q3 ⟨hn1, by omega⟩ (by omega) (by omega)
    have hto : typeOf (objN y.objs n).cls < 8 + u.classes.length := by unfold typeOf; repeat' split; all_goals omega
    have hin := l2In_c p u.classes.length cc u.classes (typeOf (objN y.objs n).cls) (8 + k) h1 hcs ok hto (by omega)
    refine selPt hn1 ?_
    conv => whnf
    repeat' ((first | refine ld r0 ?_ | refine ld q1 ?_ | refine callX_p (l13Ref_c _ _) ?_ | refine callX_p hty ?_ | refine callX_p hin ?_ | refine ob (by omega) ?_ | refine ar_in (by omega) (by omega) ?_ | refine ptr ?_) <;> conv => whnf)
    refine selNB (fun gt => ?_) (fun gt => ?_)
    all_goals conv => whnf
    · rw [if_pos ⟨hn1, gt⟩]
      refine call_r (wrong_x hX1 5) (fun v h3 hh => ?_)
      conv => whnf
      exact hh.trans ev1 e1
    · rw [if_neg (fun hx => by rw [gt] at hx; cases hx.2)]
      refine call_p (l13Ref_c _ _) ?_
      conv => whnf
      refine call_r (push_x hX1 hs1.1.fs1 hs1.1.st1 ⟨true, n⟩) (fun v h3 hh => ?_)
      conv => whnf
      exact hh.trans ev1 e1
end Go.Proofs
namespace Go.Proofs
open Go.Vc
set_option maxRecDepth 100000
set_option maxHeartbeats 4000000
theorem thingX_good {u : Unt} {x : Sx} {n k : Int} (hs : SOk u x) (h : ¬ (thingX u x n k).bad) : isBad u (objN x.objs n).cls k = false := by
  unfold thingX at h
  split at h
  · rename_i hb; exact absurd hb h
  · rename_i hb
    have hft : x.ft = 0 := by
      have := hs.ft
      have : ¬ 0 < x.ft := fun hx => hb (.inr hx)
      omega
    split at h
    · refine absurd ?_ h
      unfold wrongX Sx.bad
      rw [if_pos hft]
      exact .inr (by show (0 : Int) < 2; omega)
    · split at h
      · exact absurd (.inl rfl) h
      · rename_i h2; simpa using h2
theorem XS.objVal {h0 h : Heap} {bx : Nat} {us : List Value} {u : Unt} {y : Sx} {B : List Nat} (hX : XS h0 h bx us u y B) {n : Int} (hn0 : 0 < n) (hle : n ≤ y.objs.length) {i : Nat} (hi : i < (objN y.objs n).vals.length) :
    ∃ bo c bv cv, rd h bx 2 = some (.slice (some ⟨bo, 0, none⟩) y.objs.length c) ∧ rd h bo (0 + (n - 1).toNat * 2 + 1) = some (.slice (some ⟨bv, 0, none⟩) (List.map vl2 (objN y.objs n).vals).length cv) ∧ rdn h bv (0 + i * 2) 2 = some (vl2 ((objN y.objs n).vals.getD i noVl)) ∧
      ∀ (v : Vl) (K : Heap → Prop), (∀ h', XR h0 h bx us u B { y with objs := putOb y.objs n ((objN y.objs n).vals.set i v) } h' → K h') → St h bv (0 + i * 2) [.bool v.ref, .int .i64 v.n] K := by
  obtain ⟨bo, c, v, Bi, q1, q3, q2, ov, reb⟩ := hX.objAt hn0 hle
  obtain ⟨pv, cv, rfl, _⟩ := ov.form
  obtain ⟨b0, e0, r0, _, _, _⟩ := ov.two hi
  obtain ⟨bv, pre, xx, post, tt, hqv, _, hbv, hpl, hxx, rfl, rebv⟩ := OwnC.put ov hi
  rw [hqv] at e0
  simp only [Option.some.injEq, Addr.mk.injEq, and_true] at e0
  subst e0
  subst hqv
  refine ⟨bo, c, bv, cv, q1, q2, by rw [getD_of hi]; exact r0, fun v K hk => ?_⟩
  have hw : wrls (pre ++ xx ++ post) (0 + i * 2) [.bool v.ref, .int .i64 v.n] = pre ++ vl2 v ++ post := wr_all (by omega) (by rw [hxx]; rfl)
  refine sth hbv (pre ++ vl2 v ++ post) (by simp [hxx, vl2, hpl] <;> omega) hw (fun h' e1 g1 => ?_)
  exact hk h' (reb h' _ (rebv _ v g1) (fun b hb _ => by rw [e1]; simp only [Heap.set]; rw [if_neg (by simpa using hb)]))
theorem elem_x_set {h0 h : Heap} {bx : Nat} {us : List Value} {u : Unt} {x : Sx} {B : List Nat} (hX : XS h0 h bx us u x B) (hs : SOk u x) (ok : CsOk u.classes) (k : Int) (hk : k = 0 ∨ k = 1) :
    Rets Tryz.prog 224 [.pointer (some ⟨bx, 0, none⟩), .int .i64 k, .bool true] h fun _ h' => XR h0 h bx us u B (elemX u x k true) h' := by
  have hel : elemX u x k true = if (thingX u (refX (wordX (popX x).2).2).2 (refX (wordX (popX x).2).2).1 (-1 - k)).bad then thingX u (refX (wordX (popX x).2).2).2 (refX (wordX (popX x).2).2).1 (-1 - k) else if ¬ (0 ≤ (wordX (popX x).2).1 ∧ (wordX (popX x).2).1 < (objN (thingX u (refX (wordX (popX x).2).2).2 (refX (wordX (popX x).2).2).1 (-1 - k)).objs (refX (wordX (popX x).2).2).1).vals.length) then wrongX (thingX u (refX (wordX (popX x).2).2).2 (refX (wordX (popX x).2).2).1 (-1 - k)) 3 else putX (thingX u (refX (wordX (popX x).2).2).2 (refX (wordX (popX x).2).2).1 (-1 - k)) (refX (wordX (popX x).2).2).1 (wordX (popX x).2).1 (popX x).1 := rfl
  rw [hel]
  refine rets Tryz.sigOk Tryz.func224 Tryz.F224 Tryz.ok224 rfl ?_
  conv => whnf
  refine call_r (pop_x hX hs.fs1 hs.st1) (fun v h1 hh => ?_)
  have hv := hh.1
  subst hv
  refine hh.2.elim fun B1 hh1 => ?_
  have hX1 := hh1.1
  have ev1 := hh1.2.1
  have e1 := hh1.2.2
  have hs1 := hs.pop.1
  have hpv := hs.pop.2
  have hob1 : (popX x).2.objs = x.objs := (popX_fs x).2.1
  rw [← hob1] at hpv
  conv => whnf
  refine call_r (word_x hX1 hs1) (fun v h2 hh => ?_)
  have hv := hh.1
  subst hv
  refine hh.2.elim fun B2 hh2 => ?_
  have hX2 := hh2.1
  have ev2 := ev1.trans hh2.2.1
  have e2 := hh2.2.2.trans e1
  have hs2 := hs1.word
  conv => whnf
  refine call_r (ref_x hX2 hs2.1) (fun v h3 hh => ?_)
  have hv := hh.1
  subst hv
  refine hh.2.elim fun B3 hh3 => ?_
  have hX3 := hh3.1
  have ev3 := ev2.trans hh3.2.1
  have e3 := hh3.2.2.trans e2
  have hs3 := SOk.ref hs2.1
  conv => whnf
  refine ar_in (by omega) (by omega) ?_
  conv => whnf
  refine call_r (thing_x hX3 hs3.1 ok _ (-1 - k) (by rw [(refX_fs _).2.1]; exact hs3.2) (by omega)) (fun v h4 hh => ?_)
  refine hh.2.1.elim fun bn hv => hv.elim fun on hv => ?_
  subst hv
  refine hh.1.elim fun B4 hh4 => ?_
  have hX4 := hh4.1
  have hgood := hh.2.2
  have ev4 := ev3.trans hh4.2.1
  have e4 := hh4.2.2.trans e3
  by_cases hbad : (thingX u (refX (wordX (popX x).2).2).2 (refX (wordX (popX x).2).2).1 (-1 - k)).bad
  · rw [if_pos hbad]
    have r9 := hX4.rds.1
    have r10 := hX4.rds.2.1
    conv => whnf
    refine ld r9 ?_
    conv => whnf
    refine selB (fun g => ?_) (fun g => ?_)
    all_goals conv => whnf
    · exact ⟨B4, hX4, ev4, e4⟩
    · refine ld r10 ?_
      conv => whnf
      refine selPt (hbad.resolve_left (by rw [g]; simp)) ?_
      conv => whnf
      exact ⟨B4, hX4, ev4, e4⟩
  rw [if_neg hbad]
  have hg := hgood hbad
  have hn0 := hg.1
  have hth := hg.2.1
  have hnb := thingX_good hs3.1 hbad
  refine hg.2.2.elim fun bo hg => hg.elim fun co hg => ?_
  have hbo := hg.1
  have hp := hg.2
  simp only [Value.pointer.injEq, Option.some.injEq, Addr.mk.injEq, and_true] at hp
  have hp1 := hp.1
  have hp2 := hp.2
  subst hp1
  subst hp2
  rw [hth] at hbad hX4 ⊢
  have hst : (refX (wordX (popX x).2).2).2.st = false := by
    cases hh : (refX (wordX (popX x).2).2).2.st with
    | false => rfl
    | true => exact absurd (.inl hh) hbad
  have hft : (refX (wordX (popX x).2).2).2.ft = 0 := by
    have h1 := hs3.1.ft
    have h2 : ¬ 0 < (refX (wordX (popX x).2).2).2.ft := fun hx => hbad (.inr hx)
    omega
  have r9 := hX4.rds.1
  have r10 := hX4.rds.2.1
  rw [hst] at r9
  rw [hft] at r10
  conv => whnf
  repeat' ((first | refine ld r9 ?_ | refine ld r10 ?_ | refine ob (by omega) ?_ | refine ar_in (by omega) (by omega) ?_ | refine ptr ?_) <;> conv => whnf)
  have hle : (refX (wordX (popX x).2).2).1 ≤ (refX (wordX (popX x).2).2).2.objs.length := by rw [(refX_fs _).2.1]; exact hs3.2.2
  refine (hX4.objAt hn0 hle).elim fun bo2 hq => hq.elim fun co2 hq => hq.elim fun vv hq => hq.elim fun Bi hq => ?_
  have hbo2 := hq.1
  rw [hbo] at hbo2
  simp only [Option.some.injEq, Value.slice.injEq, Addr.mk.injEq, and_true, true_and] at hbo2
  have hb2 := hbo2.1
  subst hb2
  have q2 := hq.2.2.1
  have ov := hq.2.2.2.1
  have reb := hq.2.2.2.2
  have hO := hs3.1.obs _ (objN_in hn0 hle)
  refine ov.form.elim fun pv hf => hf.elim fun cv hf => ?_
  have hv := hf.1
  subst hv
  have hlv := len_map vl2 (objN (refX (wordX (popX x).2).2).2.objs (refX (wordX (popX x).2).2).1).vals
  have hv8 : (objN (refX (wordX (popX x).2).2).2.objs (refX (wordX (popX x).2).2).1).vals.length ≤ 8 := by
    rcases hO.2 with ⟨_, h2⟩ | ⟨_, h3, h4⟩
    · omega
    · rw [h4]; exact flds_len' ok h3
  repeat' ((first | refine ld q2 ?_ | refine ob (by omega) ?_ | refine ar_in (by omega) (by omega) ?_ | refine ptr ?_) <;> conv => whnf)
  refine call_p (l6In_c _ _ _ _) ?_
  conv => whnf
  by_cases hrg : 0 ≤ (wordX (popX x).2).1 ∧ (wordX (popX x).2).1 < (objN (refX (wordX (popX x).2).2).2.objs (refX (wordX (popX x).2).2).1).vals.length
  rotate_left
  · rw [if_pos hrg]
    refine selNP (fun g => ?_) (fun g => ?_)
    all_goals conv => whnf
    · refine call_r (wrong_x hX4 3) (fun v h9 hh => ?_)
      conv => whnf
      exact hh.trans ev4 e4
    · exfalso; omega
  rw [if_neg (by simpa using hrg)]
  refine selNP (fun g => ?_) (fun g => ?_)
  all_goals conv => whnf
  · exfalso; omega
  have hiN : ((wordX (popX x).2).1).toNat < (objN (refX (wordX (popX x).2).2).2.objs (refX (wordX (popX x).2).2).1).vals.length := by omega
  refine (hX4.objVal hn0 hle hiN).elim fun bo3 hz => hz.elim fun co3 hz => hz.elim fun bv hz => hz.elim fun cv3 hz => ?_
  have z1 := hz.1
  have z2 := hz.2.1
  have z3 := hz.2.2.1
  have z4 := hz.2.2.2
  rw [hbo] at z1
  simp only [Option.some.injEq, Value.slice.injEq, Addr.mk.injEq, and_true, true_and] at z1
  have zb := z1.1
  subst zb
  rw [z2] at q2
  simp only [Option.some.injEq, Value.slice.injEq, true_and] at q2
  have zp := q2.1
  have zc := q2.2
  subst zp
  subst zc
  repeat' ((first | exact trivial | refine ld z2 ?_ | refine ob (by omega) ?_ | refine ptr ?_ | refine And.intro ?_ ?_) <;> conv => whnf)
  all_goals
    refine z4 (popX x).1 _ (fun h9 hh => ?_)
    conv => whnf
    exact hh.trans ev4 e4
theorem elem_x_get {h0 h : Heap} {bx : Nat} {us : List Value} {u : Unt} {x : Sx} {B : List Nat} (hX : XS h0 h bx us u x B) (hs : SOk u x) (ok : CsOk u.classes) (k : Int) (hk : k = 0 ∨ k = 1) :
    Rets Tryz.prog 224 [.pointer (some ⟨bx, 0, none⟩), .int .i64 k, .bool false] h fun _ h' => XR h0 h bx us u B (elemX u x k false) h' := by
  have hel : elemX u x k false = if (thingX u (refX (wordX x).2).2 (refX (wordX x).2).1 (-1 - k)).bad then thingX u (refX (wordX x).2).2 (refX (wordX x).2).1 (-1 - k) else if ¬ (0 ≤ (wordX x).1 ∧ (wordX x).1 < (objN (thingX u (refX (wordX x).2).2 (refX (wordX x).2).1 (-1 - k)).objs (refX (wordX x).2).1).vals.length) then wrongX (thingX u (refX (wordX x).2).2 (refX (wordX x).2).1 (-1 - k)) 3 else pushX (thingX u (refX (wordX x).2).2 (refX (wordX x).2).1 (-1 - k)) ((objN (thingX u (refX (wordX x).2).2 (refX (wordX x).2).1 (-1 - k)).objs (refX (wordX x).2).1).vals.getD (wordX x).1.toNat noVl) := rfl
  rw [hel]
  have hX1 := hX
  have hs1 := hs
  have ev1 := Ev.refl h (bx :: B)
  have e1 : rd h bx 3 = rd h bx 3 := rfl
  refine rets Tryz.sigOk Tryz.func224 Tryz.F224 Tryz.ok224 rfl ?_
  conv => whnf
  refine call_r (word_x hX1 hs1) (fun v h2 hh => ?_)
  have hv := hh.1
  subst hv
  refine hh.2.elim fun B2 hh2 => ?_
  have hX2 := hh2.1
  have ev2 := ev1.trans hh2.2.1
  have e2 := hh2.2.2.trans e1
  have hs2 := hs1.word
  conv => whnf
  refine call_r (ref_x hX2 hs2.1) (fun v h3 hh => ?_)
  have hv := hh.1
  subst hv
  refine hh.2.elim fun B3 hh3 => ?_
  have hX3 := hh3.1
  have ev3 := ev2.trans hh3.2.1
  have e3 := hh3.2.2.trans e2
  have hs3 := SOk.ref hs2.1
  conv => whnf
  refine ar_in (by omega) (by omega) ?_
  conv => whnf
  refine call_r (thing_x hX3 hs3.1 ok _ (-1 - k) (by rw [(refX_fs _).2.1]; exact hs3.2) (by omega)) (fun v h4 hh => ?_)
  refine hh.2.1.elim fun bn hv => hv.elim fun on hv => ?_
  subst hv
  refine hh.1.elim fun B4 hh4 => ?_
  have hX4 := hh4.1
  have hgood := hh.2.2
  have ev4 := ev3.trans hh4.2.1
  have e4 := hh4.2.2.trans e3
  by_cases hbad : (thingX u (refX (wordX x).2).2 (refX (wordX x).2).1 (-1 - k)).bad
  · rw [if_pos hbad]
    have r9 := hX4.rds.1
    have r10 := hX4.rds.2.1
    conv => whnf
    refine ld r9 ?_
    conv => whnf
    refine selB (fun g => ?_) (fun g => ?_)
    all_goals conv => whnf
    · exact ⟨B4, hX4, ev4, e4⟩
    · refine ld r10 ?_
      conv => whnf
      refine selPt (hbad.resolve_left (by rw [g]; simp)) ?_
      conv => whnf
      exact ⟨B4, hX4, ev4, e4⟩
  rw [if_neg hbad]
  have hg := hgood hbad
  have hn0 := hg.1
  have hth := hg.2.1
  have hnb := thingX_good hs3.1 hbad
  refine hg.2.2.elim fun bo hg => hg.elim fun co hg => ?_
  have hbo := hg.1
  have hp := hg.2
  simp only [Value.pointer.injEq, Option.some.injEq, Addr.mk.injEq, and_true] at hp
  have hp1 := hp.1
  have hp2 := hp.2
  subst hp1
  subst hp2
  rw [hth] at hbad hX4 ⊢
  have hst : (refX (wordX x).2).2.st = false := by
    cases hh : (refX (wordX x).2).2.st with
    | false => rfl
    | true => exact absurd (.inl hh) hbad
  have hft : (refX (wordX x).2).2.ft = 0 := by
    have h1 := hs3.1.ft
    have h2 : ¬ 0 < (refX (wordX x).2).2.ft := fun hx => hbad (.inr hx)
    omega
  have r9 := hX4.rds.1
  have r10 := hX4.rds.2.1
  rw [hst] at r9
  rw [hft] at r10
  conv => whnf
  repeat' ((first | refine ld r9 ?_ | refine ld r10 ?_ | refine ob (by omega) ?_ | refine ar_in (by omega) (by omega) ?_ | refine ptr ?_) <;> conv => whnf)
  have hle : (refX (wordX x).2).1 ≤ (refX (wordX x).2).2.objs.length := by rw [(refX_fs _).2.1]; exact hs3.2.2
  refine (hX4.objAt hn0 hle).elim fun bo2 hq => hq.elim fun co2 hq => hq.elim fun vv hq => hq.elim fun Bi hq => ?_
  have hbo2 := hq.1
  rw [hbo] at hbo2
  simp only [Option.some.injEq, Value.slice.injEq, Addr.mk.injEq, and_true, true_and] at hbo2
  have hb2 := hbo2.1
  subst hb2
  have q2 := hq.2.2.1
  have ov := hq.2.2.2.1
  have reb := hq.2.2.2.2
  have hO := hs3.1.obs _ (objN_in hn0 hle)
  refine ov.form.elim fun pv hf => hf.elim fun cv hf => ?_
  have hv := hf.1
  subst hv
  have hlv := len_map vl2 (objN (refX (wordX x).2).2.objs (refX (wordX x).2).1).vals
  have hv8 : (objN (refX (wordX x).2).2.objs (refX (wordX x).2).1).vals.length ≤ 8 := by
    rcases hO.2 with ⟨_, h2⟩ | ⟨_, h3, h4⟩
    · omega
    · rw [h4]; exact flds_len' ok h3
  repeat' ((first | refine ld q2 ?_ | refine ob (by omega) ?_ | refine ar_in (by omega) (by omega) ?_ | refine ptr ?_) <;> conv => whnf)
  refine call_p (l6In_c _ _ _ _) ?_
  conv => whnf
  by_cases hrg : 0 ≤ (wordX x).1 ∧ (wordX x).1 < (objN (refX (wordX x).2).2.objs (refX (wordX x).2).1).vals.length
  rotate_left
  · rw [if_pos hrg]
    refine selNP (fun g => ?_) (fun g => ?_)
    all_goals conv => whnf
    · refine call_r (wrong_x hX4 3) (fun v h9 hh => ?_)
      conv => whnf
      exact hh.trans ev4 e4
    · exfalso; omega
  rw [if_neg (by simpa using hrg)]
  refine selNP (fun g => ?_) (fun g => ?_)
  all_goals conv => whnf
  · exfalso; omega
  have hiN : ((wordX x).1).toNat < (objN (refX (wordX x).2).2.objs (refX (wordX x).2).1).vals.length := by omega
  refine (hX4.objVal hn0 hle hiN).elim fun bo3 hz => hz.elim fun co3 hz => hz.elim fun bv hz => hz.elim fun cv3 hz => ?_
  have z1 := hz.1
  have z2 := hz.2.1
  have z3 := hz.2.2.1
  have z4 := hz.2.2.2
  rw [hbo] at z1
  simp only [Option.some.injEq, Value.slice.injEq, Addr.mk.injEq, and_true, true_and] at z1
  have zb := z1.1
  subst zb
  rw [z2] at q2
  simp only [Option.some.injEq, Value.slice.injEq, true_and] at q2
  have zp := q2.1
  have zc := q2.2
  subst zp
  subst zc
  repeat' ((first | refine ld z2 ?_ | refine ldn z3 ?_ | refine ob (by omega) ?_ | refine ar_in (by omega) (by omega) ?_ | refine ptr ?_) <;> conv => whnf)
  refine call_r (push_x hX4 hs3.1.fs1 hs3.1.st1 _) (fun v h9 hh => ?_)
  conv => whnf
  exact hh.trans ev4 e4
theorem field_x_set {h0 h : Heap} {bx : Nat} {us : List Value} {u : Unt} {x : Sx} {B : List Nat} (hX : XS h0 h bx us u x B) (hs : SOk u x) (ok : CsOk u.classes) (k i : Int) (hk : 0 ≤ k ∧ k < u.classes.length) (hi : 0 ≤ i ∧ i < (flds u.classes k).length) :
    Rets Tryz.prog 225 [.pointer (some ⟨bx, 0, none⟩), .int .i64 k, .int .i64 i, .bool true] h fun _ h' => XR h0 h bx us u B (fieldX u x k i true) h' := by
  have hel : fieldX u x k i true = if (thingX u (refX (popX x).2).2 (refX (popX x).2).1 k).bad then thingX u (refX (popX x).2).2 (refX (popX x).2).1 k else putX (thingX u (refX (popX x).2).2 (refX (popX x).2).1 k) (refX (popX x).2).1 i (popX x).1 := rfl
  rw [hel]
  refine rets Tryz.sigOk Tryz.func225 Tryz.F225 Tryz.ok225 rfl ?_
  conv => whnf
  refine call_r (pop_x hX hs.fs1 hs.st1) (fun v h1 hh => ?_)
  have hv := hh.1
  subst hv
  refine hh.2.elim fun B1 hh1 => ?_
  have hX1 := hh1.1
  have ev1 := hh1.2.1
  have e1 := hh1.2.2
  have hs1 := hs.pop.1
  have hpv := hs.pop.2
  have hob1 : (popX x).2.objs = x.objs := (popX_fs x).2.1
  rw [← hob1] at hpv
  conv => whnf
  refine call_r (ref_x hX1 hs1) (fun v h3 hh => ?_)
  have hv := hh.1
  subst hv
  refine hh.2.elim fun B3 hh3 => ?_
  have hX3 := hh3.1
  have ev3 := ev1.trans hh3.2.1
  have e3 := hh3.2.2.trans e1
  have hs3 := SOk.ref hs1
  conv => whnf
  refine call_r (thing_x hX3 hs3.1 ok _ k (by rw [(refX_fs _).2.1]; exact hs3.2) (by omega)) (fun v h4 hh => ?_)
  refine hh.2.1.elim fun bn hv => hv.elim fun on hv => ?_
  subst hv
  refine hh.1.elim fun B4 hh4 => ?_
  have hX4 := hh4.1
  have hgood := hh.2.2
  have ev4 := ev3.trans hh4.2.1
  have e4 := hh4.2.2.trans e3
  by_cases hbad : (thingX u (refX (popX x).2).2 (refX (popX x).2).1 k).bad
  · rw [if_pos hbad]
    have r9 := hX4.rds.1
    have r10 := hX4.rds.2.1
    conv => whnf
    refine ld r9 ?_
    conv => whnf
    refine selB (fun g => ?_) (fun g => ?_)
    all_goals conv => whnf
    · exact ⟨B4, hX4, ev4, e4⟩
    · refine ld r10 ?_
      conv => whnf
      refine selPt (hbad.resolve_left (by rw [g]; simp)) ?_
      conv => whnf
      exact ⟨B4, hX4, ev4, e4⟩
  rw [if_neg hbad]
  have hg := hgood hbad
  have hn0 := hg.1
  have hth := hg.2.1
  have hnb := thingX_good hs3.1 hbad
  refine hg.2.2.elim fun bo hg => hg.elim fun co hg => ?_
  have hbo := hg.1
  have hp := hg.2
  simp only [Value.pointer.injEq, Option.some.injEq, Addr.mk.injEq, and_true] at hp
  have hp1 := hp.1
  have hp2 := hp.2
  subst hp1
  subst hp2
  rw [hth] at hbad hX4 ⊢
  have hst : (refX (popX x).2).2.st = false := by
    cases hh : (refX (popX x).2).2.st with
    | false => rfl
    | true => exact absurd (.inl hh) hbad
  have hft : (refX (popX x).2).2.ft = 0 := by
    have h1 := hs3.1.ft
    have h2 : ¬ 0 < (refX (popX x).2).2.ft := fun hx => hbad (.inr hx)
    omega
  have r9 := hX4.rds.1
  have r10 := hX4.rds.2.1
  rw [hst] at r9
  rw [hft] at r10
  conv => whnf
  repeat' ((first | refine ld r9 ?_ | refine ld r10 ?_ | refine ob (by omega) ?_ | refine ar_in (by omega) (by omega) ?_ | refine ptr ?_) <;> conv => whnf)
  have hle : (refX (popX x).2).1 ≤ (refX (popX x).2).2.objs.length := by rw [(refX_fs _).2.1]; exact hs3.2.2
  refine (hX4.objAt hn0 hle).elim fun bo2 hq => hq.elim fun co2 hq => hq.elim fun vv hq => hq.elim fun Bi hq => ?_
  have hbo2 := hq.1
  rw [hbo] at hbo2
  simp only [Option.some.injEq, Value.slice.injEq, Addr.mk.injEq, and_true, true_and] at hbo2
  have hb2 := hbo2.1
  subst hb2
  have q2 := hq.2.2.1
  have ov := hq.2.2.2.1
  have reb := hq.2.2.2.2
  have hO := hs3.1.obs _ (objN_in hn0 hle)
  refine ov.form.elim fun pv hf => hf.elim fun cv hf => ?_
  have hv := hf.1
  subst hv
  have hlv := len_map vl2 (objN (refX (popX x).2).2.objs (refX (popX x).2).1).vals
  have hv8 : (objN (refX (popX x).2).2.objs (refX (popX x).2).1).vals.length ≤ 8 := by
    rcases hO.2 with ⟨_, h2⟩ | ⟨_, h3, h4⟩
    · omega
    · rw [h4]; exact flds_len' ok h3
  have hcl : 0 ≤ (objN (refX (popX x).2).2.objs (refX (popX x).2).1).cls ∧ up u.classes (objN (refX (popX x).2).2.objs (refX (popX x).2).1).cls k = true := by
    unfold isBad at hnb
    simp at hnb
    have := hnb.2 hk.1
    exact this
  have hvl : (flds u.classes k).length ≤ (objN (refX (popX x).2).2.objs (refX (popX x).2).1).vals.length := by
    rcases hO.2 with ⟨h2, _⟩ | ⟨h2, h3, h4⟩
    · omega
    · rw [h4]; exact flds_up ok ((objN (refX (popX x).2).2.objs (refX (popX x).2).1).cls.toNat + 1) (by omega) h3 hcl.2
  have hiN : (i).toNat < (objN (refX (popX x).2).2.objs (refX (popX x).2).1).vals.length := by omega
  refine (hX4.objVal hn0 hle hiN).elim fun bo3 hz => hz.elim fun co3 hz => hz.elim fun bv hz => hz.elim fun cv3 hz => ?_
  have z1 := hz.1
  have z2 := hz.2.1
  have z3 := hz.2.2.1
  have z4 := hz.2.2.2
  rw [hbo] at z1
  simp only [Option.some.injEq, Value.slice.injEq, Addr.mk.injEq, and_true, true_and] at z1
  have zb := z1.1
  subst zb
  rw [z2] at q2
  simp only [Option.some.injEq, Value.slice.injEq, true_and] at q2
  have zp := q2.1
  have zc := q2.2
  subst zp
  subst zc
  repeat' ((first | exact trivial | refine ld z2 ?_ | refine ob (by omega) ?_ | refine ptr ?_ | refine And.intro ?_ ?_) <;> conv => whnf)
  all_goals
    refine z4 (popX x).1 _ (fun h9 hh => ?_)
    conv => whnf
    exact hh.trans ev4 e4
theorem field_x_get {h0 h : Heap} {bx : Nat} {us : List Value} {u : Unt} {x : Sx} {B : List Nat} (hX : XS h0 h bx us u x B) (hs : SOk u x) (ok : CsOk u.classes) (k i : Int) (hk : 0 ≤ k ∧ k < u.classes.length) (hi : 0 ≤ i ∧ i < (flds u.classes k).length) :
    Rets Tryz.prog 225 [.pointer (some ⟨bx, 0, none⟩), .int .i64 k, .int .i64 i, .bool false] h fun _ h' => XR h0 h bx us u B (fieldX u x k i false) h' := by
  have hel : fieldX u x k i false = if (thingX u (refX x).2 (refX x).1 k).bad then thingX u (refX x).2 (refX x).1 k else pushX (thingX u (refX x).2 (refX x).1 k) ((objN (thingX u (refX x).2 (refX x).1 k).objs (refX x).1).vals.getD i.toNat noVl) := rfl
  rw [hel]
  have hX1 := hX
  have hs1 := hs
  have ev1 := Ev.refl h (bx :: B)
  have e1 : rd h bx 3 = rd h bx 3 := rfl
  refine rets Tryz.sigOk Tryz.func225 Tryz.F225 Tryz.ok225 rfl ?_
  conv => whnf
  refine call_r (ref_x hX1 hs1) (fun v h3 hh => ?_)
  have hv := hh.1
  subst hv
  refine hh.2.elim fun B3 hh3 => ?_
  have hX3 := hh3.1
  have ev3 := ev1.trans hh3.2.1
  have e3 := hh3.2.2.trans e1
  have hs3 := SOk.ref hs1
  conv => whnf
  refine call_r (thing_x hX3 hs3.1 ok _ k (by rw [(refX_fs _).2.1]; exact hs3.2) (by omega)) (fun v h4 hh => ?_)
  refine hh.2.1.elim fun bn hv => hv.elim fun on hv => ?_
  subst hv
  refine hh.1.elim fun B4 hh4 => ?_
  have hX4 := hh4.1
  have hgood := hh.2.2
  have ev4 := ev3.trans hh4.2.1
  have e4 := hh4.2.2.trans e3
  by_cases hbad : (thingX u (refX x).2 (refX x).1 k).bad
  · rw [if_pos hbad]
    have r9 := hX4.rds.1
    have r10 := hX4.rds.2.1
    conv => whnf
    refine ld r9 ?_
    conv => whnf
    refine selB (fun g => ?_) (fun g => ?_)
    all_goals conv => whnf
    · exact ⟨B4, hX4, ev4, e4⟩
    · refine ld r10 ?_
      conv => whnf
      refine selPt (hbad.resolve_left (by rw [g]; simp)) ?_
      conv => whnf
      exact ⟨B4, hX4, ev4, e4⟩
  rw [if_neg hbad]
  have hg := hgood hbad
  have hn0 := hg.1
  have hth := hg.2.1
  have hnb := thingX_good hs3.1 hbad
  refine hg.2.2.elim fun bo hg => hg.elim fun co hg => ?_
  have hbo := hg.1
  have hp := hg.2
  simp only [Value.pointer.injEq, Option.some.injEq, Addr.mk.injEq, and_true] at hp
  have hp1 := hp.1
  have hp2 := hp.2
  subst hp1
  subst hp2
  rw [hth] at hbad hX4 ⊢
  have hst : (refX x).2.st = false := by
    cases hh : (refX x).2.st with
    | false => rfl
    | true => exact absurd (.inl hh) hbad
  have hft : (refX x).2.ft = 0 := by
    have h1 := hs3.1.ft
    have h2 : ¬ 0 < (refX x).2.ft := fun hx => hbad (.inr hx)
    omega
  have r9 := hX4.rds.1
  have r10 := hX4.rds.2.1
  rw [hst] at r9
  rw [hft] at r10
  conv => whnf
  repeat' ((first | refine ld r9 ?_ | refine ld r10 ?_ | refine ob (by omega) ?_ | refine ar_in (by omega) (by omega) ?_ | refine ptr ?_) <;> conv => whnf)
  have hle : (refX x).1 ≤ (refX x).2.objs.length := by rw [(refX_fs _).2.1]; exact hs3.2.2
  refine (hX4.objAt hn0 hle).elim fun bo2 hq => hq.elim fun co2 hq => hq.elim fun vv hq => hq.elim fun Bi hq => ?_
  have hbo2 := hq.1
  rw [hbo] at hbo2
  simp only [Option.some.injEq, Value.slice.injEq, Addr.mk.injEq, and_true, true_and] at hbo2
  have hb2 := hbo2.1
  subst hb2
  have q2 := hq.2.2.1
  have ov := hq.2.2.2.1
  have reb := hq.2.2.2.2
  have hO := hs3.1.obs _ (objN_in hn0 hle)
  refine ov.form.elim fun pv hf => hf.elim fun cv hf => ?_
  have hv := hf.1
  subst hv
  have hlv := len_map vl2 (objN (refX x).2.objs (refX x).1).vals
  have hv8 : (objN (refX x).2.objs (refX x).1).vals.length ≤ 8 := by
    rcases hO.2 with ⟨_, h2⟩ | ⟨_, h3, h4⟩
    · omega
    · rw [h4]; exact flds_len' ok h3
  have hcl : 0 ≤ (objN (refX x).2.objs (refX x).1).cls ∧ up u.classes (objN (refX x).2.objs (refX x).1).cls k = true := by
    unfold isBad at hnb
    simp at hnb
    have := hnb.2 hk.1
    exact this
  have hvl : (flds u.classes k).length ≤ (objN (refX x).2.objs (refX x).1).vals.length := by
    rcases hO.2 with ⟨h2, _⟩ | ⟨h2, h3, h4⟩
    · omega
    · rw [h4]; exact flds_up ok ((objN (refX x).2.objs (refX x).1).cls.toNat + 1) (by omega) h3 hcl.2
  have hiN : (i).toNat < (objN (refX x).2.objs (refX x).1).vals.length := by omega
  refine (hX4.objVal hn0 hle hiN).elim fun bo3 hz => hz.elim fun co3 hz => hz.elim fun bv hz => hz.elim fun cv3 hz => ?_
  have z1 := hz.1
  have z2 := hz.2.1
  have z3 := hz.2.2.1
  have z4 := hz.2.2.2
  rw [hbo] at z1
  simp only [Option.some.injEq, Value.slice.injEq, Addr.mk.injEq, and_true, true_and] at z1
  have zb := z1.1
  subst zb
  rw [z2] at q2
  simp only [Option.some.injEq, Value.slice.injEq, true_and] at q2
  have zp := q2.1
  have zc := q2.2
  subst zp
  subst zc
  repeat' ((first | refine ld z2 ?_ | refine ldn z3 ?_ | refine ob (by omega) ?_ | refine ar_in (by omega) (by omega) ?_ | refine ptr ?_) <;> conv => whnf)
  refine call_r (push_x hX4 hs3.1.fs1 hs3.1.st1 _) (fun v h9 hh => ?_)
  conv => whnf
  exact hh.trans ev4 e4
end Go.Proofs
namespace Go.Proofs
open Go.Vc
set_option maxRecDepth 100000
set_option maxHeartbeats 4000000
theorem XS.loc {h0 h : Heap} {bx : Nat} {us : List Value} {u : Unt} {y : Sx} {B : List Nat} {bf : Nat} (hX : XS h0 h bx us u y B) (ht : Tp h bx y.fs.length bf) {i : Nat} (hi : i < y.f.locals.length) :
    ∃ bl cl, rd h bf (y.fs.length * 4 + 2) = some (.slice (some ⟨bl, 0, none⟩) (List.map vl2 y.f.locals).length cl) ∧ rdn h bl (0 + i * 2) 2 = some (vl2 (y.f.locals.getD i noVl)) ∧
      ∀ (v : Vl) (K : Heap → Prop), (∀ h', XR h0 h bx us u B { y with f := { y.f with locals := y.f.locals.set i v } } h' → K h') → St h bl (0 + i * 2) [.bool v.ref, .int .i64 v.n] K := by
  obtain ⟨t, q, r, v1, v2, B1, B2, hbf, hq, o1, o2, nd, hfr, hne, ne1, reb⟩ := hX.lens ht
  obtain ⟨pv, cv, rfl, _⟩ := o1.form
  obtain ⟨b0, e0, r0, _, _, _⟩ := o1.two hi
  obtain ⟨bl, pre, xx, post, tt, hqv, _, hbv, hpl, hxx, rfl, rebv⟩ := OwnC.put o1 hi
  rw [hqv] at e0
  simp only [Option.some.injEq, Addr.mk.injEq, and_true] at e0
  subst e0
  subst hqv
  refine ⟨bl, cv, rd_mid hbf (i := 2) (by omega) rfl, by rw [getD_of hi]; exact r0, fun v K hk => ?_⟩
  have hw : wrls (pre ++ xx ++ post) (0 + i * 2) [.bool v.ref, .int .i64 v.n] = pre ++ vl2 v ++ post := wr_all (by omega) (by rw [hxx]; rfl)
  refine sth hbv (pre ++ vl2 v ++ post) (by simp [hxx, vl2, hpl] <;> omega) hw (fun h' e1 g1 => ?_)
  have hoth : ∀ b, b ≠ bl → h' b = h b := fun b hb => by rw [e1]; simp only [Heap.set, hb, if_false]
  have hbl := hne bl (by simp)
  have hb2 : ∀ b ∈ B2, b ≠ bl := by
    rintro b hb rfl
    have := nd b
    have := List.count_pos_iff.2 hb
    simp only [List.count_append, List.count_cons, List.count_nil, beq_self_eq_true, if_true] at *
    omega
  refine hk h' (reb h' { y.f with locals := y.f.locals.set i v } _ v2 [bl] B2 ?_ ?_ (rebv _ v g1) ?_ (fun b hb => .inl hb) nd)
  · rw [hoth bf (fun hx => hbl.1 hx.symm)]; exact hbf
  · intro b hb _
    exact hoth b (fun hx => hb (by simp [hx]))
  · exact o2.keep fun b hb o ho => by rw [hoth b (hb2 b hb)]; exact ho
def plainX (x : Sx) (i : Ins) : Sx :=
  if i.kind = 1 then pushX x ⟨false, i.a⟩
  else if i.kind = 2 then pushX x ⟨true, 0⟩
  else if i.kind = 3 then pushX x (x.f.locals.getD i.a.toNat noVl)
  else if i.kind = 4 then { (popX x).2 with f := { (popX x).2.f with locals := (popX x).2.f.locals.set i.a.toNat (popX x).1 } }
  else if i.kind = 5 then (popX x).2
  else if i.kind = 6 then pushX (pushX (popX x).2 (popX x).1) (popX x).1
  else if i.kind = 7 then opX x i.a
  else if i.kind = 24 then (if (wordX x).2.st = false then { (wordX x).2 with said := (wordX x).2.said ++ [(wordX x).1] } else (wordX x).2)
  else x
def lookX (u : Unt) (x : Sx) (i : Ins) : Sx :=
  if i.kind = 12 then freshX u x i.a
  else if i.kind = 13 then arrayX x i.a
  else if i.kind = 14 then sizeX x
  else if i.kind = 15 then elemX u x i.a false
  else if i.kind = 16 then elemX u x i.a true
  else if i.kind = 17 then fieldX u x i.a i.b false
  else if i.kind = 18 then fieldX u x i.a i.b true
  else if i.kind = 19 then castX u x i.a
  else x
def leadsX (x : Sx) (i : Ins) : Bool × Sx :=
  if i.kind = 8 then (decide ((wordX (wordX x).2).1 < (wordX x).1), (wordX (wordX x).2).2)
  else if i.kind = 9 then (decide ((wordX (wordX x).2).1 = (wordX x).1), (wordX (wordX x).2).2)
  else if i.kind = 10 then (decide ((refX x).1 = 0), (refX x).2)
  else (decide (i.kind = 11), x)
theorem popX_said (x : Sx) : (popX x).2.said = x.said := by unfold popX; split <;> rfl
theorem wordX_said (x : Sx) : (wordX x).2.said = x.said := by unfold wordX; split <;> exact popX_said x
theorem refX_said (x : Sx) : (refX x).2.said = x.said := by unfold refX; split <;> exact popX_said x
structure XiOk (u : Unt) (x : Sx) (i : Ins) : Prop where
  loc : i.kind = 3 ∨ i.kind = 4 → 0 ≤ i.a ∧ i.a < x.f.locals.length
  arr : i.kind = 13 ∨ i.kind = 15 ∨ i.kind = 16 → i.a = 0 ∨ i.a = 1
  things : ThingsT u i
theorem plain_x {h0 h : Heap} {bx : Nat} {us : List Value} {u : Unt} {x : Sx} {B : List Nat} (hX : XS h0 h bx us u x B) (hs : SOk u x) (kind a b : Int) (hi : XiOk u x ⟨kind, a, b⟩) (hsaid : x.said.length ≤ 1000) :
    Rets Tryz.prog 173 [.pointer (some ⟨bx, 0, none⟩), .agg #[.int .i64 kind, .int .i64 a, .int .i64 b]] h fun _ h' => XR h0 h bx us u B (plainX x ⟨kind, a, b⟩) h' := by
  obtain ⟨bf, ht⟩ := hX.tp
  have htop := top_x hX ht hs.fs1
  obtain ⟨hloc, _, _⟩ := hi
  simp only at hloc
  have push : ∀ v : Vl, Rets Tryz.prog 217 [.pointer (some ⟨bx, 0, none⟩), vlV v] h fun _ h' => XR h0 h bx us u B (pushX x v) h' := fun v => push_x hX hs.fs1 hs.st1 v
  refine rets Tryz.sigOk Tryz.func173 Tryz.F173 Tryz.ok173 rfl ?_
  conv => whnf
  refine call_p htop ?_
  conv => whnf
  by_cases k1 : kind = 1
  · subst k1
    conv => whnf
    refine call_p (l13Int_c _ _) ?_
    conv => whnf
    refine call_r (push _) (fun v h1 hh => ?_)
    conv => whnf
    exact hh
  refine selPf k1 ?_
  conv => whnf
  by_cases k2 : kind = 2
  · subst k2
    conv => whnf
    refine call_p (l13Ref_c _ _) ?_
    conv => whnf
    refine call_r (push _) (fun v h1 hh => ?_)
    conv => whnf
    exact hh
  refine selPf k2 ?_
  conv => whnf
  by_cases k3 : kind = 3
  · subst k3
    have ha := hloc (.inl rfl)
    refine (hX.loc ht (i := a.toNat) (by omega)).elim fun bl hz => hz.elim fun cl hz => ?_
    have z1 := hz.1
    have z2 := hz.2.1
    have hll := len_map vl2 x.f.locals
    conv => whnf
    repeat' ((first | exact trivial | refine ld z1 ?_ | refine ldn z2 ?_ | refine ob (by omega) ?_ | refine ptr ?_ | refine And.intro ?_ ?_) <;> conv => whnf)
    all_goals
      refine call_r (push (x.f.locals.getD a.toNat noVl)) (fun v h1 hh => ?_)
      conv => whnf
      exact hh
  refine selPf k3 ?_
  conv => whnf
  by_cases k4 : kind = 4
  · subst k4
    have ha := hloc (.inr rfl)
    have hpop := pop_x2 hX hs.fs1 hs.st1
    refine (hX.loc ht (i := a.toNat) (by omega)).elim fun bl hz => hz.elim fun cl hz => ?_
    have z1 := hz.1
    have hll := len_map vl2 x.f.locals
    conv => whnf
    repeat' ((first | exact trivial | refine ld z1 ?_ | refine ob (by omega) ?_ | refine ptr ?_ | refine And.intro ?_ ?_) <;> conv => whnf)
    all_goals
      refine call_r hpop (fun v h1 hh => ?_)
      have hv := hh.1
      subst hv
      refine hh.2.1.elim fun B1 hh1 => ?_
      have hX1 := hh1.1
      have z1' := (hh.2.2 bf ht).trans z1
      have ht1 : Tp h1 bx (popX x).2.fs.length bf := by
        obtain ⟨c0, k0⟩ := ht
        exact ⟨c0, by rw [hh1.2.2, (popX_fs x).1]; exact k0⟩
      refine (hX1.loc ht1 (i := a.toNat) (by rw [(popX_fs x).2.2.2]; omega)).elim fun bl2 hz => hz.elim fun cl2 hz => ?_
      have y1 := hz.1
      have y3 := hz.2.2
      rw [(popX_fs x).1, z1', (popX_fs x).2.2.2] at y1
      simp only [Option.some.injEq, Value.slice.injEq, Addr.mk.injEq, and_true, true_and] at y1
      have yb := y1.1
      subst yb
      conv => whnf
      repeat' ((first | refine ld z1' ?_ | refine ob (by omega) ?_ | refine ptr ?_) <;> conv => whnf)
      refine y3 (popX x).1 _ (fun h9 hh9 => ?_)
      conv => whnf
      exact hh9.trans hh1.2.1 hh1.2.2
  refine selPf k4 ?_
  conv => whnf
  by_cases k5 : kind = 5
  · subst k5
    conv => whnf
    refine call_r (pop_x hX hs.fs1 hs.st1) (fun v h1 hh => ?_)
    conv => whnf
    exact hh.2
  refine selPf k5 ?_
  conv => whnf
  by_cases k6 : kind = 6
  · subst k6
    conv => whnf
    refine call_r (pop_x hX hs.fs1 hs.st1) (fun v h1 hh => ?_)
    have hv := hh.1
    subst hv
    refine hh.2.elim fun B1 hh1 => ?_
    have hs1 := hs.pop.1
    have hvw := hs.pop.2
    conv => whnf
    refine call_r (push_x hh1.1 hs1.fs1 hs1.st1 (popX x).1) (fun v h2 hh => ?_)
    refine hh.elim fun B2 hh2 => ?_
    have hs2 := hs1.push (v := (popX x).1) (by rw [(popX_fs x).2.1]; exact hvw)
    conv => whnf
    refine call_r (push_x hh2.1 hs2.fs1 hs2.st1 (popX x).1) (fun v h3 hh => ?_)
    conv => whnf
    exact (hh.trans hh2.2.1 hh2.2.2).trans hh1.2.1 hh1.2.2
  refine selPf k6 ?_
  conv => whnf
  by_cases k7 : kind = 7
  · subst k7
    conv => whnf
    refine call_r (op_x hX hs a) (fun v h1 hh => ?_)
    conv => whnf
    exact hh
  refine selPf k7 ?_
  conv => whnf
  by_cases k24 : kind = 24
  · subst k24
    conv => whnf
    refine call_r (word_x hX hs) (fun v h1 hh => ?_)
    have hv := hh.1
    subst hv
    refine hh.2.elim fun B1 hh1 => ?_
    have hX1 := hh1.1
    have r9 := hX1.rds.1
    have hp : plainX x ⟨24, a, b⟩ = (if (wordX x).2.st = false then { (wordX x).2 with said := (wordX x).2.said ++ [(wordX x).1] } else (wordX x).2) := rfl
    rw [hp]
    have hsl : (wordX x).2.said.length ≤ 1000 := by
      rw [wordX_said]; exact hsaid
    generalize (wordX x).2 = y at hh1 hX1 r9 hsl ⊢
    conv => whnf
    refine ld r9 ?_
    conv => whnf
    refine selNB (fun g => ?_) (fun g => ?_)
    all_goals conv => whnf
    · rw [if_pos g]
      refine (hX1.ma.growS (show y.mch.said.length ≤ 1000 from hsl)).elim fun t hg => hg.elim fun ps hg => hg.elim fun cs hg => hg.elim fun vo hg => hg.elim fun vf hg => hg.elim fun hbm grow => ?_
      have r4 : rd h1 bx 4 = some (.slice ps y.said.length cs) := rd_mid hbm (i := 2) (by rw [hX1.us2]) rfl
      have r3 : rd h1 bx 3 = some vf := rd_mid hbm (i := 1) (by rw [hX1.us2]) rfl
      repeat' ((first | exact trivial | refine ld r4 ?_ | refine And.intro ?_ ?_) <;> conv => whnf)
      all_goals
        refine grow (wordX x).1 [] _ _ ⟨rfl, rfl⟩ (fun _ => by simp) (by simp) rfl rfl rfl rfl (by simp) ?_
        rintro p' c' h2 e1 e2 e3 ⟨B2, hM3, ev3⟩
        have hb3 := e1.trans hbm
        conv => whnf
        refine st1h hb3 (i := 2) (mcells vo vf (.slice p' (y.mch.said.length + 1) c') y.mch) (by rw [hX1.us2]) (by simp [mcells]) rfl (fun h3 hh3 hg3 => ?_)
        rw [← hh3] at hM3 ev3
        conv => whnf
        have q3 : rd h3 bx 3 = some vf := rd_mid hg3 (i := 1) (by rw [hX1.us2]) rfl
        exact ⟨B2, ⟨hM3, hX.un⟩, hh1.2.1.trans (by simpa using ev3), (q3.trans r3.symm).trans hh1.2.2⟩
    · rw [if_neg (by rw [g]; simp)]
      exact ⟨B1, hX1, hh1.2⟩
  refine selPf k24 ?_
  conv => whnf
  have hp : plainX x ⟨kind, a, b⟩ = x := by simp [plainX, k1, k2, k3, k4, k5, k6, k7, k24]
  rw [hp]
  exact ⟨B, hX, Ev.refl _ _, rfl⟩
end Go.Proofs
namespace Go.Proofs
open Go.Vc
set_option maxRecDepth 100000
set_option maxHeartbeats 4000000
theorem look_x {h0 h : Heap} {bx : Nat} {us : List Value} {u : Unt} {x : Sx} {B : List Nat} (hX : XS h0 h bx us u x B) (hs : SOk u x) (ok : CsOk u.classes) (kind a b : Int) (hi : XiOk u x ⟨kind, a, b⟩) :
    Rets Tryz.prog 174 [.pointer (some ⟨bx, 0, none⟩), .agg #[.int .i64 kind, .int .i64 a, .int .i64 b]] h fun _ h' => XR h0 h bx us u B (lookX u x ⟨kind, a, b⟩) h' := by
  obtain ⟨_, harr, hth⟩ := hi
  simp only [ThingsT] at harr hth
  refine rets Tryz.sigOk Tryz.func174 Tryz.F174 Tryz.ok174 rfl ?_
  conv => whnf
  by_cases k12 : kind = 12
  · subst k12
    conv => whnf
    refine call_r (fresh_x hX hs ok a (hth.1 (by simp))) (fun v h1 hh => ?_)
    conv => whnf
    exact hh
  refine selPf k12 ?_
  conv => whnf
  by_cases k13 : kind = 13
  · subst k13
    conv => whnf
    refine call_r (array_x hX hs a (harr (by simp))) (fun v h1 hh => ?_)
    conv => whnf
    exact hh
  refine selPf k13 ?_
  conv => whnf
  by_cases k14 : kind = 14
  · subst k14
    conv => whnf
    refine call_r (size_x hX hs) (fun v h1 hh => ?_)
    conv => whnf
    exact hh
  refine selPf k14 ?_
  conv => whnf
  by_cases k15 : kind = 15
  · subst k15
    conv => whnf
    refine call_r (elem_x_get hX hs ok a (harr (by simp))) (fun v h1 hh => ?_)
    conv => whnf
    exact hh
  refine selPf k15 ?_
  conv => whnf
  by_cases k16 : kind = 16
  · subst k16
    conv => whnf
    refine call_r (elem_x_set hX hs ok a (harr (by simp))) (fun v h1 hh => ?_)
    conv => whnf
    exact hh
  refine selPf k16 ?_
  conv => whnf
  by_cases k17 : kind = 17
  · subst k17
    conv => whnf
    refine call_r (field_x_get hX hs ok a b (hth.1 (by simp)) (hth.2 (by simp))) (fun v h1 hh => ?_)
    conv => whnf
    exact hh
  refine selPf k17 ?_
  conv => whnf
  by_cases k18 : kind = 18
  · subst k18
    conv => whnf
    refine call_r (field_x_set hX hs ok a b (hth.1 (by simp)) (hth.2 (by simp))) (fun v h1 hh => ?_)
    conv => whnf
    exact hh
  refine selPf k18 ?_
  conv => whnf
  by_cases k19 : kind = 19
  · subst k19
    conv => whnf
    refine call_r (cast_x hX hs ok a (hth.1 (by simp))) (fun v h1 hh => ?_)
    conv => whnf
    exact hh
  refine selPf k19 ?_
  conv => whnf
  have hp : lookX u x ⟨kind, a, b⟩ = x := by simp [lookX, k12, k13, k14, k15, k16, k17, k18, k19]
  rw [hp]
  exact ⟨B, hX, Ev.refl _ _, rfl⟩
theorem leads_x {h0 h : Heap} {bx : Nat} {us : List Value} {u : Unt} {x : Sx} {B : List Nat} (hX : XS h0 h bx us u x B) (hs : SOk u x) (kind a b : Int) :
    Rets Tryz.prog 172 [.pointer (some ⟨bx, 0, none⟩), .agg #[.int .i64 kind, .int .i64 a, .int .i64 b]] h fun v h' => v = .bool (leadsX x ⟨kind, a, b⟩).1 ∧ XR h0 h bx us u B (leadsX x ⟨kind, a, b⟩).2 h' := by
  have hs1 := hs.word.1
  refine rets Tryz.sigOk Tryz.func172 Tryz.F172 Tryz.ok172 rfl ?_
  conv => whnf
  by_cases k8 : kind = 8
  · subst k8
    conv => whnf
    refine call_r (word_x hX hs) (fun v h1 hh => ?_)
    have hv := hh.1
    subst hv
    refine hh.2.elim fun B1 hh1 => ?_
    conv => whnf
    refine call_r (word_x hh1.1 hs1) (fun v h2 hh => ?_)
    have hv := hh.1
    subst hv
    conv => whnf
    exact ⟨rfl, hh.2.trans hh1.2.1 hh1.2.2⟩
  refine selPf k8 ?_
  conv => whnf
  by_cases k9 : kind = 9
  · subst k9
    conv => whnf
    refine call_r (word_x hX hs) (fun v h1 hh => ?_)
    have hv := hh.1
    subst hv
    refine hh.2.elim fun B1 hh1 => ?_
    conv => whnf
    refine call_r (word_x hh1.1 hs1) (fun v h2 hh => ?_)
    have hv := hh.1
    subst hv
    conv => whnf
    exact ⟨rfl, hh.2.trans hh1.2.1 hh1.2.2⟩
  refine selPf k9 ?_
  conv => whnf
  by_cases k10 : kind = 10
  · subst k10
    conv => whnf
    refine call_r (ref_x hX hs) (fun v h1 hh => ?_)
    have hv := hh.1
    subst hv
    conv => whnf
    exact ⟨rfl, hh.2⟩
  refine selPf k10 ?_
  conv => whnf
  have hp : leadsX x ⟨kind, a, b⟩ = (decide (kind = 11), x) := by simp [leadsX, k8, k9, k10]
  rw [hp]
  exact ⟨rfl, B, hX, Ev.refl _ _, rfl⟩
def XE (h0 h : Heap) (bx : Nat) (us : List Value) (u : Unt) (B : List Nat) (r : Mch × Bool × Int) (h' : Heap) : Prop := ∃ B', XM h0 h' bx us u r.1 r.2.1 r.2.2 B' ∧ Ev h h' (bx :: B) (bx :: B')
def Sx.res (x : Sx) : Mch × Bool × Int := (x.mch, x.st, x.ft)
theorem XR.toE {h0 h : Heap} {bx : Nat} {us : List Value} {u : Unt} {B : List Nat} {y : Sx} {h' : Heap} (hr : XR h0 h bx us u B y h') : XE h0 h bx us u B y.res h' := by
  obtain ⟨B', a, b, _⟩ := hr
  exact ⟨B', a, b⟩
theorem XE.trans {h0 h h1 h2 : Heap} {bx : Nat} {us : List Value} {u : Unt} {B B1 : List Nat} {r : Mch × Bool × Int} (ev : Ev h h1 (bx :: B) (bx :: B1)) (hr : XE h0 h1 bx us u B1 r h2) : XE h0 h bx us u B r h2 := by
  obtain ⟨B', a, b⟩ := hr
  exact ⟨B', a, ev.trans b⟩
theorem XS.stPc {h0 h : Heap} {bx : Nat} {us : List Value} {u : Unt} {x : Sx} {B : List Nat} {bf : Nat} (hX : XS h0 h bx us u x B) (ht : Tp h bx x.fs.length bf) :
    rd h bf (x.fs.length * 4 + 1) = some (.int .i64 x.f.pc) ∧ ∀ (n : Int) (K : Heap → Prop), (∀ h', XR h0 h bx us u B { x with f := { x.f with pc := n } } h' → K h') → St h bf (x.fs.length * 4 + 1) [.int .i64 n] K := by
  obtain ⟨t, q, r, v1, p2, c2, B2, hbf, hq, o2, hfr, r3, reb⟩ := hX.stk ht
  refine ⟨rd_mid hbf (i := 1) (by omega) rfl, fun n K hk => ?_⟩
  have hR := (reb h _ B2 x.f.stack n (fun _ _ _ => rfl) o2 (fun b hb => .inl hb)).2
  refine st1h hbf (i := 1) [.int .i64 x.f.meth, .int .i64 n, v1, .slice p2 (x.f.stack.map vl2).length c2] (by omega) (by simp) rfl (fun h9 hh9 _ => ?_)
  rw [← hh9] at hR
  exact hk h9 hR
def backX (x : Sx) : Mch × Bool × Int :=
  let p := popX x
  if p.2.st = true then p.2.res
  else match p.2.fs.getLast? with
    | none => (⟨x.objs, [], x.said, x.steps, 1, p.1⟩, p.2.st, p.2.ft)
    | some g =>
      let y := pushX { p.2 with fs := p.2.fs.dropLast, f := g } p.1
      ({ y with f := { y.f with pc := y.f.pc + 1 } } : Sx).res
theorem pushX_fs (x : Sx) (v : Vl) : (pushX x v).fs = x.fs ∧ (pushX x v).f.pc = x.f.pc ∧ (pushX x v).f.meth = x.f.meth := by unfold pushX; split <;> exact ⟨rfl, rfl, rfl⟩
theorem back_x {h0 h : Heap} {bx : Nat} {us : List Value} {u : Unt} {x : Sx} {B : List Nat} (hX : XS h0 h bx us u x B) (hs : SOk u x) (hfs : ∀ g ∈ x.fs, FrW u x.objs.length g) (hc : ∀ m : Mth, m ∈ u.methods → m.code.length ≤ 1000) :
    Rets Tryz.prog 167 [.pointer (some ⟨bx, 0, none⟩)] h fun _ h' => XE h0 h bx us u B (backX x) h' := by
  have hs1 := hs.pop.1
  have hpx := popX_fs x
  have hpsaid := popX_said x
  have hpst : (popX x).2.steps = x.steps ∧ (popX x).2.fin = x.fin ∧ (popX x).2.out = x.out := by unfold popX; split <;> exact ⟨rfl, rfl, rfl⟩
  have hbk : backX x = if (popX x).2.st = true then (popX x).2.res else match (popX x).2.fs.getLast? with
    | none => (⟨x.objs, [], x.said, x.steps, 1, (popX x).1⟩, (popX x).2.st, (popX x).2.ft)
    | some g => ({ (pushX { (popX x).2 with fs := (popX x).2.fs.dropLast, f := g } (popX x).1) with f := { (pushX { (popX x).2 with fs := (popX x).2.fs.dropLast, f := g } (popX x).1).f with pc := (pushX { (popX x).2 with fs := (popX x).2.fs.dropLast, f := g } (popX x).1).f.pc + 1 } } : Sx).res := rfl
  rw [hbk]
  clear hbk
  obtain ⟨pu, cu, qu, du, rfl, _⟩ := hX.un.form
  rw [← hpx.1, ← hpx.2.1] at hfs
  rw [← hpx.2.1, ← hpsaid, ← hpst.1]
  refine rets Tryz.sigOk Tryz.func167 Tryz.F167 Tryz.ok167 rfl ?_
  conv => whnf
  refine call_r (pop_x hX hs.fs1 hs.st1) (fun v h1 hh => ?_)
  have hv := hh.1
  subst hv
  refine hh.2.elim fun B1 hh1 => ?_
  have hX1 := hh1.1
  have ev1 := hh1.2.1
  generalize (popX x).2 = y at hfs hs1 hX1 ⊢
  generalize (popX x).1 = w
  have r9 := hX1.rds.1
  conv => whnf
  refine ld r9 ?_
  conv => whnf
  refine selB (fun g => ?_) (fun g => ?_)
  all_goals conv => whnf
  · rw [if_pos g]
    exact ⟨B1, hX1, ev1⟩
  rw [if_neg (by rw [g]; simp)]
  refine (hX1.ma.popF (fs := y.fs) (f := y.f) rfl).elim fun tb hz => hz.elim fun pf hz => hz.elim fun cf hz => hz.elim fun vo hz => hz.elim fun vs hz => ?_
  have hbm := hz.1
  have hcap := hz.2.1
  refine hz.2.2.elim fun B2 hz2 => ?_
  have r3 : rd h1 bx 3 = some (.slice pf (y.fs.length + 1) cf) := rd_mid hbm (i := 1) (by rw [hX1.us2]) rfl
  have hnf := hs1.nf
  repeat' ((first | refine ld r3 ?_ | refine ob (by omega) ?_ | refine ar_in (by omega) (by omega) ?_ | refine ptr ?_) <;> conv => whnf)
  have hcast : (((y.fs.length + 1 : Nat) : Int) - 1).toNat = y.fs.length := by omega
  refine st1h hbm (i := 1) (mcells vo (.slice pf (((y.fs.length + 1 : Nat) : Int) - 1).toNat cf) vs y.mch) (by rw [hX1.us2]) (by simp [mcells]) rfl (fun h2 hh2 g2 => ?_)
  rw [hcast] at hh2 g2
  rw [← hh2] at hz2
  have hM2 := hz2.1
  have ev2 := ev1.trans hz2.2
  conv => whnf
  rcases List.eq_nil_or_concat y.fs with hn | ⟨gs, gl, hn⟩
  · have hl0 : y.fs.length = 0 := by rw [hn]; rfl
    have hlast : y.fs.getLast? = none := by rw [hn]; rfl
    rw [hlast]
    refine selPt (by omega) ?_
    conv => whnf
    refine hM2.ints.elim fun t2 hi => hi.elim fun vo2 hi => hi.elim fun vf2 hi => hi.elim fun vs2 hi => ?_
    have hb2 := hi.1
    have reb := hi.2.2.2.2
    refine sth hb2 ([.slice pu u.classes.length cu, .slice qu u.methods.length du] ++ mcells vo2 vf2 vs2 ⟨y.objs, y.fs, y.said, y.steps, 1, y.out⟩ ++ [.bool y.st, .int .i64 y.ft]) (by simp [mcells]) rfl (fun h3 e3 g3 => ?_)
    conv => whnf
    refine sth g3 ([.slice pu u.classes.length cu, .slice qu u.methods.length du] ++ mcells vo2 vf2 vs2 ⟨y.objs, y.fs, y.said, y.steps, 1, w⟩ ++ [.bool y.st, .int .i64 y.ft]) (by simp [mcells]) rfl (fun h4 e4 g4 => ?_)
    conv => whnf
    have hr := reb ⟨y.objs, y.fs, y.said, y.steps, 1, w⟩ rfl rfl rfl
    have e5 : h4 = h2.set bx (.cells (([.slice pu u.classes.length cu, .slice qu u.methods.length du] ++ mcells vo2 vf2 vs2 ⟨y.objs, y.fs, y.said, y.steps, 1, w⟩ ++ [.bool y.st, .int .i64 y.ft] : List Value)).toArray t2 (0, 0)) := by rw [e4, e3, set_set]
    rw [← e5, hn] at hr
    exact ⟨B2, ⟨hr.1, hX.un⟩, ev2.trans hr.2⟩
  · rw [List.concat_eq_append] at hn
    have hl1 : y.fs.length = gs.length + 1 := by rw [hn]; simp
    have hlast : y.fs.getLast? = some gl := by rw [hn]; simp
    have hdrop : y.fs.dropLast = gs := by rw [hn]; simp
    rw [hlast]
    simp only [hdrop]
    have hG := hfs gl (by rw [hn]; simp)
    have hmm := hc _ (mth_mem hG.1)
    have hpc := hG.2.1
    have hgs := hG.2.2.2.1
    rw [hn] at hM2
    have hX2 : XS h0 h2 bx [.slice pu u.classes.length cu, .slice qu u.methods.length du] u { y with fs := gs, f := gl } B2 := ⟨hM2, hX.un⟩
    refine selPf (by omega) ?_
    conv => whnf
    refine call_r (push_x hX2 (by show gs.length ≤ 1000; omega) (by show gl.stack.length ≤ 1000; omega) w) (fun v h3 hh => ?_)
    refine hh.elim fun B3 hh3 => ?_
    have hX3 := hh3.1
    have ev3 := ev2.trans hh3.2.1
    have hpf := pushX_fs { y with fs := gs, f := gl } w
    generalize pushX { y with fs := gs, f := gl } w = z at hX3 hpf ⊢
    refine hX3.tp.elim fun bf ht => ?_
    have hfl : z.fs.length ≤ 1000 := by rw [hpf.1]; show gs.length ≤ 1000; omega
    have hz1 := hX3.stPc ht
    have hpz := hpf.2.1
    simp only at hpz
    conv => whnf
    refine call_p (top_x hX3 ht hfl) ?_
    conv => whnf
    refine ld hz1.1 ?_
    conv => whnf
    refine ar_in (by omega) (by omega) ?_
    conv => whnf
    refine hz1.2 _ _ (fun h4 hh4 => ?_)
    conv => whnf
    exact XE.trans ev3 hh4.toE
end Go.Proofs
namespace Go.Proofs
open Go.Vc
set_option maxRecDepth 100000
set_option maxHeartbeats 4000000
def throwX (u : Unt) (n : Int) (M : Mch) (sk : Bool) (ft : Int) : Mch × Bool × Int :=
  if (objN M.objs n).cls < 0 ∨ up u.classes (objN M.objs n).cls 1 = false then (M, true, ft) else (throwS u n M, sk, ft)
theorem throw_x {h0 h : Heap} {bx : Nat} {us : List Value} {u : Unt} {M : Mch} {sk : Bool} {ft : Int} {B : List Nat} (hX : XM h0 h bx us u M sk ft B) (ok : CsOk u.classes) (n : Int) (hn : 0 < n ∧ n ≤ M.objs.length) (hlo : M.objs.length ≤ 1000) (hl : M.frames.length ≤ 1000)
    (hc : -2 ≤ (objN M.objs n).cls ∧ (objN M.objs n).cls < u.classes.length) (hfs : ∀ g ∈ M.frames, 0 ≤ g.meth ∧ g.meth < u.methods.length) (hct : ∀ m ∈ u.methods, ∀ c ∈ m.catches, (0 ≤ c.hi ∧ c.hi ≤ 1000) ∧ 0 ≤ c.cls) :
    Rets Tryz.prog 100 [.pointer (some ⟨bx, 0, none⟩), .int .i64 n] h fun _ h' => XE h0 h bx us u B (throwX u n M sk ft) h' := by
  obtain ⟨_, _, _, _, _, p, cc, q, d, rfl, r0, rm, _, hcs, hms⟩ := hX.rds
  obtain ⟨bo, co, r1, r2⟩ := hX.ma.objAt hn.1 hn.2
  have hbad : (objN M.objs n).cls < 0 ∨ up u.classes (objN M.objs n).cls 1 = false → throwX u n M sk ft = (M, true, ft) := fun hx => if_pos hx
  have hok : ¬ ((objN M.objs n).cls < 0 ∨ up u.classes (objN M.objs n).cls 1 = false) → throwX u n M sk ft = (throwS u n M, sk, ft) := fun hx => if_neg hx
  have r1' : rd h bx 2 = some (.slice (some ⟨bo, 0, none⟩) M.objs.length co) := r1
  have hpos : 0 ≤ (objN M.objs n).cls → Pure Tryz.prog 131 [.slice p u.classes.length cc, .int .i64 (objN M.objs n).cls, .int .i64 1] h (.bool (up u.classes (objN M.objs n).cls 1)) := fun h0 => l2Up_c p u.classes.length cc u.classes _ 1 h hcs ok (by omega) hc.2 (by omega)
  refine rets Tryz.sigOk Tryz.func100 Tryz.F100 Tryz.ok100 rfl ?_
  conv => whnf
  repeat' ((first | refine ld r1' ?_ | refine ld r2 ?_ | refine ob (by omega) ?_ | refine ar_in (by omega) (by omega) ?_ | refine ptr ?_) <;> conv => whnf)
  refine selP (fun g1 => ?_) (fun g1 => ?_)
  all_goals conv => whnf
  · refine hX.stuck (fun h1 hX1 ev1 e1 => ?_)
    conv => whnf
    rw [hbad (.inl g1)]
    exact ⟨B, hX1, ev1⟩
  repeat' ((first | refine ld r0 ?_ | refine ob (by omega) ?_ | refine ar_in (by omega) (by omega) ?_ | refine ptr ?_) <;> conv => whnf)
  refine call_p (hpos (by omega)) ?_
  conv => whnf
  refine selNB (fun g2 => ?_) (fun g2 => ?_)
  all_goals conv => whnf
  · refine hX.stuck (fun h1 hX1 ev1 e1 => ?_)
    conv => whnf
    rw [hbad (.inr g2)]
    exact ⟨B, hX1, ev1⟩
  rw [hok (by rw [g2]; simp; omega)]
  refine lps [0, 1, 4] [] (fun s : List Frm × Heap × List Nat => XM h0 s.2.1 bx [.slice p u.classes.length cc, .slice q u.methods.length d] u { M with frames := s.1 } sk ft s.2.2 ∧ Ev h s.2.1 (bx :: B) (bx :: s.2.2) ∧ throwS u n { M with frames := s.1 } = throwS u n M ∧ s.1.length ≤ 1000 ∧ ∀ g ∈ s.1, 0 ≤ g.meth ∧ g.meth < u.methods.length) (fun s => s.1.length)
    (fun s => ([.v (.pointer (some ⟨bx, 0, none⟩)), .v (.int .i64 n), .v (.int .i64 (objN M.objs n).cls)], [], s.2.1))
    (M.frames, h, B) ⟨hX, Ev.refl _ _, rfl, hl, hfs⟩ rfl ?_
  rintro ⟨fs, h1, B1⟩ ⟨hX1, ev1, hth, hl3, hfs1⟩
  simp only at hX1 ev1 hth hl3 hfs1 ⊢
  conv => whnf
  obtain ⟨_, _, _, ⟨pf, cf, r3⟩, _, p', cc', q', d', he, r0', rm', _, hcs1, hms1⟩ := hX1.rds
  simp only [List.cons.injEq, Value.slice.injEq, true_and, and_true] at he
  obtain ⟨⟨rfl, rfl⟩, rfl, rfl⟩ := he
  replace r3 : rd h1 bx 3 = some (.slice pf fs.length cf) := r3
  refine ld r3 ?_
  conv => whnf
  refine selP (fun g0 => ?_) (fun g0 => ?_)
  all_goals conv => whnf
  · obtain ⟨gs, g, rfl⟩ : ∃ gs gl, fs = gs ++ [gl] := by
      rcases List.eq_nil_or_concat fs with rfl | ⟨gs, gl, rfl⟩
      · simp at g0
      · exact ⟨gs, gl, by simp⟩
    have hg := hfs1 g (by simp)
    have hlen : (gs ++ [g]).length = gs.length + 1 := by simp
    have hXs : XS h0 h1 bx [.slice p u.classes.length cc, .slice q u.methods.length d] u ⟨M.objs, gs, g, M.said, M.steps, M.fin, M.out, sk, ft⟩ B1 := hX1
    obtain ⟨bf, ht⟩ := hXs.tp
    have hgl : gs.length ≤ 1000 := by omega
    have htop := top_x hXs ht hgl
    simp only at htop
    obtain ⟨t, qq, r, v1, v2, Bl, Bs, hbf, hq, o1, o2, nd, hfr, hne, ne, reb⟩ := hXs.lens ht
    simp only at hbf hq o1 o2 reb
    rw [throwS_app] at hth
    have s0 : rd h1 bf (gs.length * 4) = some (.int .i64 g.meth) := rd_mid hbf (i := 0) (by omega) rfl
    have s1 : rd h1 bf (gs.length * 4 + 1) = some (.int .i64 g.pc) := rd_mid hbf (i := 1) (by omega) rfl
    have hi : g.meth.toNat < u.methods.length := by omega
    have e := hms1.get hi
    obtain ⟨bb, oo, mcs, hq2, e1, e2⟩ := e
    have hme : mth u g.meth = u.methods[g.meth.toNat] := mth_eq hi (by omega)
    have hcm := hct _ (mth_mem hg)
    obtain ⟨p1, c1, p2, c2, p3, c3, p4, c4, e3, k1, k2, k3, k4, k5, k6, k7, k8, d1, d2, d3, d4⟩ := e2.form
    subst e3
    have s2 : rd h1 bb (oo + g.meth.toNat * 8 + 7) = some (.slice p4 (mth u g.meth).catches.length c4) := by rw [hme]; exact rdn_get e1 (i := 7) rfl
    have k8' : Row 4 CtcR h1 (.slice p4 (mth u g.meth).catches.length c4) (mth u g.meth).catches := by rw [hme]; exact k8
    have d4' : (mth u g.meth).catches.length ≤ 140737488351232 := by rw [hme]; exact d4
    refine call_p htop ?_
    conv => whnf
    repeat' ((first | refine ld rm' ?_ | refine ld s0 ?_ | refine ptr' hq2 ?_ | refine ld s2 ?_ | refine ob (by omega) ?_ | refine ar_in (by omega) (by omega) ?_ | refine ptr ?_) <;> conv => whnf)
    refine lps [0, 1, 4, 5, 6, 7] [] (fun i : Nat => i ≤ (mth u g.meth).catches.length ∧ ∀ j (hj : j < (mth u g.meth).catches.length), j < i → ¬ (((mth u g.meth).catches[j].lo ≤ g.pc ∧ g.pc < (mth u g.meth).catches[j].hi) ∧ up u.classes (objN M.objs n).cls (mth u g.meth).catches[j].cls = true)) (fun i => (mth u g.meth).catches.length - i)
      (fun i => ([.v (.pointer (some ⟨bx, 0, none⟩)), .v (.int .i64 n), .v (.int .i64 (objN M.objs n).cls), .v (.pointer (some ⟨bf, gs.length * 4, none⟩)), .v (.slice p4 (mth u g.meth).catches.length c4), .v (.int .i64 i)], [], h1)) 0 ⟨by omega, fun _ _ hx => by omega⟩ rfl ?_
    rintro i ⟨hi4, hg4⟩
    conv => whnf
    refine selP (fun g5 => ?_) (fun g5 => ?_)
    all_goals conv => whnf
    · have hil : i < (mth u g.meth).catches.length := by omega
      have f := k8'.get hil
      obtain ⟨bc, oc, cvs, hqc, f1, f2, f3⟩ := f
      subst f2
      have hcx := hcm _ (List.getElem_mem hil)
      have c0 := rdn_get f1 (i := 0) rfl
      have c1' := rdn_get f1 (i := 1) rfl
      have c2' := rdn_get f1 (i := 2) rfl
      have c3' := rdn_get f1 (i := 3) rfl
      have hup := l2Up_c p u.classes.length cc u.classes (objN M.objs n).cls (mth u g.meth).catches[i].cls h1 hcs1 ok (by omega) hc.2 hcx.2
      have go : ¬ (((mth u g.meth).catches[i].lo ≤ g.pc ∧ g.pc < (mth u g.meth).catches[i].hi) ∧ up u.classes (objN M.objs n).cls (mth u g.meth).catches[i].cls = true) → ∀ j (hj : j < (mth u g.meth).catches.length), j < i + 1 → ¬ (((mth u g.meth).catches[j].lo ≤ g.pc ∧ g.pc < (mth u g.meth).catches[j].hi) ∧ up u.classes (objN M.objs n).cls (mth u g.meth).catches[j].cls = true) := by
        intro hx j hj hji
        rcases Nat.lt_succ_iff_lt_or_eq.1 hji with h10 | rfl
        · exact hg4 j hj h10
        · exact hx
      repeat' ((first | refine ld s1 ?_ | refine ptr' hqc ?_ | refine ld c0 ?_ | refine ld c1' ?_ | refine callX_p (l6In_c _ _ _ _) ?_ | refine ob (by omega) ?_ | refine ar_in (by omega) (by omega) ?_ | refine ptr ?_) <;> conv => whnf)
      refine selP (fun g6 => ?_) (fun g6 => ?_)
      all_goals conv => whnf
      · repeat' ((first | refine ld r0' ?_ | refine ptr' hqc ?_ | refine ld c3' ?_ | refine callX_p hup ?_ | refine ob (by omega) ?_ | refine ar_in (by omega) (by omega) ?_ | refine ptr ?_) <;> conv => whnf)
        refine selB (fun g7 => ?_) (fun g7 => ?_)
        all_goals conv => whnf
        · have hfc : findC u (objN M.objs n).cls g.pc (mth u g.meth).catches = some (mth u g.meth).catches[i] := by
            rw [findC_drop _ i hg4, List.drop_eq_getElem_cons hil, findC, if_pos ⟨by omega, g7⟩]
          rw [hfc] at hth
          simp only at hth
          repeat' ((first | refine ptr' hqc ?_ | refine ld c2' ?_ | refine ob (by omega) ?_ | refine ar_in (by omega) (by omega) ?_ | refine ptr ?_) <;> conv => whnf)
          refine st1h hbf (i := 1) [.int .i64 g.meth, .int .i64 (mth u g.meth).catches[i].to, v1, v2] (by omega) (by simp) rfl (fun h2 hh2 hg2 => ?_)
          conv => whnf
          refine call_p (l13Ref_c _ _) ?_
          conv => whnf
          refine new' [.bool true, .int .i64 n] rfl (fun b h3 hb hh3 l3 hg3 => ?_)
          conv => whnf
          have hb1 : h1 b = none := by
            rw [hh2] at hb
            by_cases hbb : b = bf
            · subst hbb; simp [Heap.set] at hb
            · simpa [Heap.set, hbb] using hb
          have hbbf : b ≠ bf := by rintro rfl; rw [hg2] at hb; cases hb
          refine st1h (l3 _ _ hg2) (i := 3) [.int .i64 g.meth, .int .i64 (mth u g.meth).catches[i].to, v1, .slice (some ⟨b, 0, none⟩) 1 1] (by omega) (by simp) rfl (fun h4 hh4 hg4' => ?_)
          have hsame : ∀ x, x ≠ bf → x ≠ b → h4 x = h1 x := by
            intro x n1 n2
            rw [hh4, hh3, hh2]
            simp [Heap.set, n1, n2]
          have h4b : h4 b = some (.cells [Value.bool true, .int .i64 n].toArray 31 (0, 0)) := by
            rw [hh4]; simp only [Heap.set, hbbf, if_false]; exact hg3
          have hB1 : ∀ x ∈ Bl, x ≠ bf ∧ x ≠ b := fun x hx => ⟨(hne x (by simp [hx])).1, by rintro rfl; obtain ⟨o, ho⟩ := o1.in x hx; rw [hb1] at ho; cases ho⟩
          have hrb := reb h4 { g with pc := (mth u g.meth).catches[i].to, stack := [⟨true, n⟩] } v1 (.slice (some ⟨b, 0, none⟩) 1 1) Bl [b] hg4'
            (fun x hx hn => by
              have n1 : x ≠ bf := fun hy => hx (by simp [hy])
              have n2 : x ≠ b := by rintro rfl; exact hn hb1
              exact hsame x n1 n2)
            (o1.keep fun x hx o ho => by rw [hsame x (hB1 x hx).1 (hB1 x hx).2]; exact ho)
            (own_row (t := 31) (by simp [vl2]) rfl (by rw [h4b]; rfl))
            (fun x hx => by
              rcases List.mem_append.1 hx with hx | hx
              · exact .inl (by simp [hx])
              · rw [List.mem_singleton.1 hx]; exact .inr hb1)
            (by
              have n1 : Nd Bl := nd.less fun a => by simp only [List.count_append]; omega
              intro a
              have := n1 a
              simp only [List.count_append, List.count_cons, List.count_nil]
              by_cases ha : b = a
              · subst ha
                have : Bl.count b = 0 := List.count_eq_zero.2 fun hx => (hB1 b hx).2 rfl
                simp [this]
              · simp [ha]; exact this)
          conv => whnf
          rw [← hth]
          exact XE.trans ev1 hrb.toE
        · refine ar_in (by omega) (by omega) ?_
          conv => whnf
          refine lpn (i + 1) ⟨by omega, go (fun hx => by rw [hx.2] at g7; cases g7)⟩ (by omega) rfl
      · refine ar_in (by omega) (by omega) ?_
        conv => whnf
        refine lpn (i + 1) ⟨by omega, go (fun hx => g6 ⟨hx.1.1, by omega⟩)⟩ (by omega) rfl
    · have hfc : findC u (objN M.objs n).cls g.pc (mth u g.meth).catches = none := by
        rw [findC_drop _ (mth u g.meth).catches.length (fun j hj _ => hg4 j hj (by omega)), List.drop_length]; rfl
      rw [hfc] at hth
      simp only at hth
      obtain ⟨t', pf', c', vo', vs', hbm', hcap, B2, hM2, ev2⟩ := hX1.ma.popF (fs := gs) (f := g) rfl
      have r3' : rd h1 bx 3 = some (.slice pf' (gs.length + 1) c') := rd_mid hbm' (i := 1) rfl rfl
      rw [r3] at r3'
      simp only [Option.some.injEq, Value.slice.injEq] at r3'
      obtain ⟨rfl, _, rfl⟩ := r3'
      repeat' ((first | refine ld r3 ?_ | refine ob (by omega) ?_ | refine ar_in (by omega) (by omega) ?_ | refine ptr ?_) <;> conv => whnf)
      have hnat : (((gs ++ [g]).length : Int) - 1).toNat = gs.length := by omega
      refine st1h hbm' (i := 1) (mcells vo' (.slice pf (((gs ++ [g]).length : Int) - 1).toNat cf) vs' { M with frames := gs ++ [g] }) rfl (by simp [mcells]) rfl (fun h2 hh2 hg2 => ?_)
      rw [hnat] at hh2 hg2
      rw [← hh2] at hM2 ev2
      conv => whnf
      refine lpn (gs, h2, B2) ⟨⟨hM2, hX.un⟩, ev1.trans ev2, hth, by simp at hl3 ⊢; omega, fun x hx => hfs1 x (by simp [hx])⟩ (by simp) rfl
  · have hfs0 : fs = [] := List.eq_nil_of_length_eq_zero (show fs.length = 0 by simpa using g0)
    subst hfs0
    obtain ⟨t', vo', vf', vs', hb', _, _, _, hint⟩ := hX1.ma.ints
    refine st1h hb' (i := 4) (mcells vo' vf' vs' { M with frames := [], fin := 2 }) rfl (by simp [mcells]) rfl (fun h2 hh2 hg2 => ?_)
    conv => whnf
    refine call_p (l13Ref_c _ _) ?_
    conv => whnf
    refine sth hg2 ([.slice p u.classes.length cc, .slice q u.methods.length d] ++ mcells vo' vf' vs' { M with frames := [], fin := 2, out := ⟨true, n⟩ } ++ [.bool sk, .int .i64 ft]) (by simp [mcells]) rfl (fun h3 hh3 hg3 => ?_)
    obtain ⟨hM2, ev2⟩ := hint { M with frames := [], fin := 2, out := ⟨true, n⟩ } rfl rfl rfl
    have hheap : h3 = h1.set bx (.cells (([.slice p u.classes.length cc, .slice q u.methods.length d] ++ mcells vo' vf' vs' { M with frames := [], fin := 2, out := ⟨true, n⟩ } ++ [.bool sk, .int .i64 ft] : List Value)).toArray t' (0, 0)) := by
      rw [hh3, hh2, set_set]
    rw [← hheap] at hM2 ev2
    conv => whnf
    rw [← hth]
    exact ⟨B1, ⟨hM2, hX.un⟩, ev1.trans ev2⟩
end Go.Proofs
