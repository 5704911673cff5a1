/- Part 7 of the lemmas on which the law rests: what functions of the program and of the reference do; no conditions but those that each lemma states. -/
import Derived.Test.YtcaoejkpbmiklaaGreatMg6
namespace Go.Proofs
open Go.Vc
set_option maxRecDepth 100000
set_option maxHeartbeats 4000000
theorem own_empty {sz : Nat} {h : Heap} {b : Nat} {t : TypeId} (hb : h b = some (.cells #[] t (0, 0))) : OwnC sz h (.slice (some ⟨b, 0, none⟩) 0 0) [] [b] := ⟨by simp, .inr ⟨b, 0, [], t, rfl, by simp, by simpa using hb, by simp, rfl⟩⟩
theorem l13Frame_c (us : List Value) (u : Unt) (k : Int) (given : List Vl) (v : Value) (h : Heap) (hu : UntR h us u) (hk : 0 ≤ k ∧ k < u.methods.length) (hg : ReadV h v given) (hl : given.length ≤ 1000) (hloc : (mth u k).locals ≤ 1000) :
    Rets Tryz.prog 98 [.agg ⟨us⟩, .int .i64 k, v] h fun v' h' => h.le h' ∧ ∃ v1 v2 B1 B2, v' = .agg #[.int .i64 k, .int .i64 0, v1, v2] ∧ OwnV h' v1 (callF u k given).locals B1 ∧ OwnV h' v2 [] B2 ∧ Nd (B1 ++ B2) ∧ ∀ b ∈ B1 ++ B2, h b = none := by
  obtain ⟨p, cc, q, d, rfl, hcs, hms, hl1, hl2⟩ := hu.form
  have hi : k.toNat < u.methods.length := by omega
  have e := hms.get hi
  obtain ⟨bb, oo, ms, hq2, e1, e2⟩ := e
  have hme : mth u k = u.methods[k.toNat] := mth_eq hi (by omega)
  obtain ⟨p1, c1, p2, c2, p3, c3, p4, c4, e3, _⟩ := e2.form
  subst e3
  have r4 : rd h bb (oo + k.toNat * 8 + 4) = some (.int .i64 (mth u k).locals) := by rw [hme]; exact rdn_get e1 (i := 4) rfl
  have hg0 := hg
  obtain ⟨hg1, hg2, pg, cg, rfl, hg3, hg4⟩ := hg
  have hlen := len_map vl2 given
  refine rets Tryz.sigOk Tryz.func98 Tryz.F98 Tryz.ok98 rfl ?_
  conv => whnf
  refine new' [] rfl (fun b1 h1 hb1 ee1 l1 g1 => ?_)
  conv => whnf
  refine (hg0.le l1).ldp ?_
  conv => whnf
  refine app_own (h0 := h) (xs := []) (ys := given.map vl2) (B := [b1]) (own_empty g1) (by simpa using hb1) l1 rfl rfl (by simp [vl2]) (cellsOk_vl given) rfl (by simp; omega) (by simp; omega) ?_
  intro v' h2 B2 k1 k2 k3 k4 k5
  have k2' : OwnV h2 v' given B2 := by simpa using k2
  have hf := k2'.form
  obtain ⟨pl, cl, rfl, _⟩ := hf
  conv => whnf
  refine new' [] rfl (fun b3 h3 hb3 ee3 l3 g3 => ?_)
  have hb3h : h b3 = none := by
    cases hh : h b3 with
    | none => rfl
    | some o => rw [k1 b3 o hh] at hb3; cases hb3
  have hB2 : b3 ∉ B2 := fun hx => by
    obtain ⟨o, ho⟩ := k2'.in b3 hx
    rw [hb3] at ho; cases ho
  have hlx : (given.map vl2).length = given.length + 0 := by simp
  have k2'' : OwnV h3 (.slice pl (given.length + 0) cl) (given ++ List.replicate 0 noVl) B2 := by
    rw [← hlx]; simpa using k2'.keep (Keep.of_le l3 _)
  rw [hlx]
  conv => whnf
  refine lps [1, 3, 6, 7] [3, 6, 7] (fun s : Nat × Heap × Option Addr × Nat × List Nat => (s.1 = 0 ∨ (given.length : Int) + s.1 ≤ (mth u k).locals) ∧ h.le s.2.1 ∧ OwnV s.2.1 (.slice s.2.2.1 (given.length + s.1) s.2.2.2.1) (given ++ List.replicate s.1 noVl) s.2.2.2.2 ∧ (∀ b ∈ s.2.2.2.2, h b = none) ∧ b3 ∉ s.2.2.2.2 ∧ s.2.1 b3 = some (.cells #[] 31 (0, 0))) (fun s => (mth u k).locals.toNat - (given.length + s.1))
    (fun s => ([.v (.int .i64 k), .l 3 0, .l 6 0, .l 7 0], [some [.slice p u.classes.length cc, .slice q u.methods.length d], some [.int .i64 0, .int .i64 0, .slice none 0 0, .slice none 0 0], some [.int .i64 k, .int .i64 0, .slice s.2.2.1 (given.length + s.1) s.2.2.2.1, .slice (some ⟨b3, 0, none⟩) 0 0]], s.2.1))
    (0, h3, pl, cl, B2) ⟨.inl rfl, Heap.le_trans k1 l3, k2'', k3, hB2, g3⟩ rfl ?_
  rintro ⟨j, h5, pp, c, Bv⟩ ⟨hj, l5, ov, nv, nb, gb⟩
  simp only at hj l5 ov nv nb gb ⊢
  have r4' := rd_le l5 r4
  conv => whnf
  repeat' ((first | refine ptr' hq2 ?_ | refine ld r4' ?_ | refine ob (by omega) ?_ | refine ar_in (by omega) (by omega) ?_ | refine ptr ?_) <;> conv => whnf)
  refine selP (fun g => ?_) (fun g => ?_)
  all_goals conv => whnf
  · repeat' ((first | exact trivial | refine callX_p (l13Int_c _ _) ?_ | refine And.intro ?_ ?_) <;> conv => whnf)
    all_goals
      have hti : ((given ++ List.replicate j noVl).map vl2).length = given.length + j := by simp
      refine app_own (h0 := h) (ys := [vl2 noVl]) ov nv l5 rfl rfl (by simp [vl2]) rfl rfl (by simp; omega) (by simp; omega) ?_
      intro v' h6 B6 q1 q2 q3 q4 q5
      have q2' : OwnV h6 v' (given ++ List.replicate (j + 1) noVl) B6 := by
        unfold OwnV
        rw [List.replicate_succ', ← List.append_assoc, List.map_append]
        exact q2
      obtain ⟨p', c', rfl, _⟩ := q2'.form
      have hti2 : ((given ++ List.replicate (j + 1) noVl).map vl2).length = given.length + (j + 1) := by simp
      rw [hti2] at q2' ⊢
      conv => whnf
      refine lpn (j + 1, h6, p', c', B6) ⟨.inr (by omega), q1, q2', q3, fun hx => ?_, ?_⟩ (by simp only; omega) rfl
      · rcases q5 b3 hx with hy | hy
        · exact nb hy
        · rw [gb] at hy; cases hy
      · show h6 b3 = _
        rw [q4 b3 nb (by rw [gb]; simp)]; exact gb
  · have hje : j = (mth u k).locals.toNat - given.length := by omega
    refine ⟨l5, _, _, Bv, [b3], rfl, ?_, own_empty gb, ?_, ?_⟩
    · unfold callF
      rw [← hje]
      exact ov
    · intro a
      have := ov.nd a
      simp only [List.count_append, List.count_cons, List.count_nil]
      by_cases ha : b3 = a
      · subst ha
        simp [List.count_eq_zero.2 nb]
      · simp [ha]; exact this
    · intro b hb
      simp only [List.mem_append, List.mem_singleton] at hb
      rcases hb with hb | rfl
      · exact nv b hb
      · exact hb3h
def calledN (u : Unt) (x : Ins) : Int :=
  if x.kind = 20 then (mth u x.a).args.length
  else if x.kind = 21 then (if 0 ≤ find u x.a x.b then (mth u (find u x.a x.b)).args.length + 1 else -1)
  else -1
theorem l13Called_c (us : List Value) (u : Unt) (kind a b : Int) (h : Heap) (hu : UntR h us u) (ok : CsOk u.classes) (h20 : kind = 20 → 0 ≤ a ∧ a < u.methods.length) (h21 : kind = 21 → 0 ≤ a ∧ a < u.classes.length) :
    Pure Tryz.prog 158 [.agg ⟨us⟩, .agg #[.int .i64 kind, .int .i64 a, .int .i64 b]] h (.int .i64 (calledN u ⟨kind, a, b⟩)) := by
  have hu0 := hu
  obtain ⟨p, cc, q, d, rfl, hcs, hms, hl1, hl2⟩ := hu.form
  have args : ∀ k : Int, 0 ≤ k → k < u.methods.length → ∃ bb oo pa ca, q = some ⟨bb, oo, none⟩ ∧ rd h bb (oo + k.toNat * 8 + 2) = some (.slice pa (mth u k).args.length ca) ∧ (mth u k).args.length ≤ 140737488351232 := by
    intro k hk0 hk1
    have hi : k.toNat < u.methods.length := by omega
    obtain ⟨bb, oo, ms, hq2, e1, e2⟩ := hms.get hi
    have hme : mth u k = u.methods[k.toNat] := mth_eq hi (by omega)
    obtain ⟨p1, c1, p2, c2, p3, c3, p4, c4, e3, k1, k2, k3, k4, k5, k6, k7, k8, d1, d2, d3, d4⟩ := e2.form
    subst e3
    exact ⟨bb, oo, p1, c1, hq2, by rw [hme]; exact rdn_get e1 (i := 2) rfl, by rw [hme]; exact k5.1⟩
  by_cases g1 : kind = 20
  · subst g1
    have ha := h20 rfl
    obtain ⟨bb, oo, pa, ca, hq, r2, _⟩ := args a ha.1 ha.2
    refine pur Tryz.sigOk Tryz.func158 Tryz.F158 Tryz.ok158 rfl ?_
    conv => whnf
    repeat' ((first | refine ptr' hq ?_ | refine ld r2 ?_ | refine ob (by omega) ?_ | refine ar_in (by omega) (by omega) ?_ | refine ptr ?_) <;> conv => whnf)
    exact ⟨rfl, rfl⟩
  by_cases g2 : kind = 21
  · subst g2
    have ha := h21 rfl
    have hf := find_bound u a b
    have hcn : calledN u ⟨21, a, b⟩ = if 0 ≤ find u a b then ((mth u (find u a b)).args.length : Int) + 1 else -1 := rfl
    by_cases g3 : 0 ≤ find u a b
    · obtain ⟨bb, oo, pa, ca, hq, r2, hle⟩ := args (find u a b) g3 hf.2
      rw [hcn, if_pos g3]
      have hfc := l3Find_c _ u a b h hu0 ok (by omega) ha.2
      generalize find u a b = k at *
      refine pur Tryz.sigOk Tryz.func158 Tryz.F158 Tryz.ok158 rfl ?_
      conv => whnf
      refine call_p hfc ?_
      conv => whnf
      refine selPt g3 ?_
      conv => whnf
      repeat' ((first | refine ptr' hq ?_ | refine ld r2 ?_ | refine ob (by omega) ?_ | refine ar_in (by omega) (by omega) ?_ | refine ptr ?_) <;> conv => whnf)
      exact ⟨rfl, rfl⟩
    · rw [hcn, if_neg g3]
      have hfc := l3Find_c _ u a b h hu0 ok (by omega) ha.2
      refine pur Tryz.sigOk Tryz.func158 Tryz.F158 Tryz.ok158 rfl ?_
      conv => whnf
      refine call_p hfc ?_
      conv => whnf
      refine selPf g3 ?_
      conv => whnf
      exact ⟨rfl, rfl⟩
  · have hcn : calledN u ⟨kind, a, b⟩ = -1 := by simp [calledN, g1, g2]
    rw [hcn]
    refine pur Tryz.sigOk Tryz.func158 Tryz.F158 Tryz.ok158 rfl ?_
    conv => whnf
    refine selPf g1 ?_
    conv => whnf
    refine selPf g2 ?_
    conv => whnf
    exact ⟨rfl, rfl⟩
theorem XS.rest {h0 h : Heap} {bx : Nat} {us : List Value} {u : Unt} {x : Sx} {B : List Nat} {bf : Nat} (hX : XS h0 h bx us u x B) (ht : Tp h bx x.fs.length bf) (hs : x.f.stack.length ≤ 1000) {m : Nat} (hm : m ≤ x.f.stack.length) :
    ∃ p2 c2, rd h bf (x.fs.length * 4 + 3) = some (.slice p2 (x.f.stack.map vl2).length c2) ∧ x.f.stack.length ≤ c2 ∧ (∀ oa, (c2 ≠ m → oa = p2.map fun a => a.add (m * 2)) → (c2 = m → oa = p2) → ReadV h (.slice oa ((x.f.stack.map vl2).length - m) (c2 - m)) (x.f.stack.drop m)) ∧
      ∀ K : Heap → Prop, (∀ h', XR h0 h bx us u B { x with f := { x.f with stack := x.f.stack.take m } } h' → K h') → St h bf (x.fs.length * 4 + 3) [.slice p2 m c2] K := by
  obtain ⟨t, q, r, v1, p2, c2, B2, hbf, hq, o2, hfr, r3, reb⟩ := hX.stk ht
  have hlen := len_map vl2 x.f.stack
  obtain ⟨_, _, he, hcap⟩ := o2.form
  simp only [Value.slice.injEq] at he
  obtain ⟨_, _, rfl⟩ := he
  refine ⟨p2, c2, r3, by simpa using hcap, fun oa k1 k2 => ?_, fun K hk => ?_⟩
  · have := OwnC.rest (sz := 2) o2 (l := m) (by simp; omega) (by simp; omega) k1 k2
    rw [map_drop_vl] at this
    exact this
  · have o3 : OwnV h (.slice p2 m c2) (x.f.stack.take m) B2 := by
      have := OwnC.first (l := m) o2 (by simp; omega)
      rw [← List.map_take] at this
      exact this
    have hrb := (reb h _ B2 (x.f.stack.take m) x.f.pc (fun _ _ _ => rfl) o3 (fun b hb => .inl hb)).2
    refine st1h hbf (i := 3) [.int .i64 x.f.meth, .int .i64 x.f.pc, v1, .slice p2 m c2] (by omega) (by simp) rfl (fun h9 hh9 _ => ?_)
    rw [← hh9] at hrb
    exact hk h9 hrb
def callX (u : Unt) (x : Sx) (i : Ins) : Mch × Bool × Int :=
  if calledN u i < 0 ∨ (x.f.stack.length : Int) < calledN u i then ({ x with st := true } : Sx).res
  else
    let given := x.f.stack.drop (x.f.stack.length - (calledN u i).toNat)
    let y := if i.kind = 21 then (if (given.getD 0 noVl).ref = false then { x with st := true } else thingX u x (given.getD 0 noVl).n i.a) else x
    if i.kind = 21 ∧ y.bad then y.res
    else if x.fs.length + 1 = 4 then (wrongX y 6).res
    else (⟨x.objs, x.fs ++ [{ x.f with stack := x.f.stack.take (x.f.stack.length - (calledN u i).toNat) }] ++ [callF u (if i.kind = 21 then find u (objN x.objs (given.getD 0 noVl).n).cls i.b else i.a) given], x.said, x.steps, x.fin, x.out⟩, y.st, y.ft)
theorem XM.growF {h0 h : Heap} {bx : Nat} {us : List Value} {u : Unt} {M : Mch} {sk : Bool} {ft : Int} {B : List Nat} (hX : XM h0 h bx us u M sk ft B) (hl : M.frames.length ≤ 1000) :
    ∃ pf cf, rd h bx 3 = some (.slice pf M.frames.length cf) ∧ ∀ (h4 : Heap), h.le h4 → ∀ {bytes : Nat} {zero : List Value} {el : TypeId} {m' : Nat} (a : Frm) (Bv : List Nat) (y : List Value) (K : Value → Heap → Prop), OwnF h4 y a Bv → Nd Bv → (∀ b ∈ Bv, h b = none) → m' = 1 → y.length = 4 → cellsOk y = true → zero.length = 4 → bytes ≤ 1000 →
      (∀ p' c' h5, (∀ K' : Heap → Prop, (∀ h6, XE h0 h bx us u B ({ M with frames := M.frames ++ [a] }, sk, ft) h6 → K' h6) → St h5 bx 3 [.slice p' (M.frames.length + 1) c'] K') → K (.slice p' (M.frames.length + 1) c') h5) → App bytes 4 zero el h4 pf M.frames.length cf m' y K := by
  obtain ⟨t, pf, cf, vo, vs, hb, _⟩ := hX.ma.growF hl
  have hu2 := hX.us2
  refine ⟨pf, cf, rd_mid hb (i := 1) (by rw [hu2]) rfl, fun h4 l4 => ?_⟩
  intro bytes zero el m' a Bv y K k1 k2 k3 k4 k5 k6 k7 k8 k9
  have hin := hX.ma.in
  have hle := hX.ma.le
  obtain ⟨t', pf', cf', vo', vs', hb', grow⟩ := (hX.mono l4).1.ma.growF hl
  have e1 : rd h4 bx 3 = some (.slice pf M.frames.length cf) := rd_le l4 (rd_mid hb (i := 1) (by rw [hu2]) rfl)
  rw [rd_mid hb' (i := 1) (by rw [hu2]) rfl] at e1
  simp only [Option.some.injEq, Value.slice.injEq, true_and] at e1
  obtain ⟨rfl, rfl⟩ := e1
  refine grow a Bv y K k1 k2 (fun b hb2 => ⟨fun hx => ?_, ?_⟩) k4 k5 k6 k7 k8 (fun p' c' h5 e1 e2 e3 hh => k9 p' c' h5 (fun K' hk => ?_))
  · obtain ⟨o, ho⟩ := hin b hx
    rw [k3 b hb2] at ho; cases ho
  · cases hh : h0 b with
    | none => rfl
    | some o => have := k3 b hb2; rw [hle b o hh] at this; cases this
  · obtain ⟨B', hM, ev⟩ := hh
    refine st1h (e1.trans hb') (i := 1) (mcells vo' (.slice p' (M.frames.length + 1) c') vs' M) (by rw [hu2]) (by simp [mcells]) rfl (fun h6 hh6 _ => ?_)
    rw [← hh6] at hM ev
    exact hk h6 ⟨B', ⟨hM, hX.un⟩, (Ev.of_le l4 ((bx :: B) ++ Bv) (fun b hb2 => (List.mem_append.1 hb2).imp id (k3 b))).trans ev⟩
theorem l13Frame_k {K : Value → Heap → Prop} {E : List PanicEntry → Heap → Prop} (us : List Value) (u : Unt) (k : Int) (given : List Vl) (v : Value) (h : Heap) (hu : UntR h us u) (hk : 0 ≤ k ∧ k < u.methods.length) (hg : ReadV h v given) (hl : given.length ≤ 1000) (hloc : (mth u k).locals ≤ 1000)
    (hK : ∀ h' p1 n1 c1 p2 n2 c2 B1 B2, h.le h' → OwnV h' (.slice p1 n1 c1) (callF u k given).locals B1 → OwnV h' (.slice p2 n2 c2) [] B2 → Nd (B1 ++ B2) → (∀ b ∈ B1 ++ B2, h b = none) → K (.agg #[.int .i64 k, .int .i64 0, .slice p1 n1 c1, .slice p2 n2 c2]) h') :
    CallX Tryz.prog 98 [.agg ⟨us⟩, .int .i64 k, v] h K E := callX_r (l13Frame_c us u k given v h hu hk hg hl hloc) (fun v' h' hh => by
  obtain ⟨l1, v1, v2, B1, B2, rfl, o1, o2, nd, fr⟩ := hh
  obtain ⟨p1, c1, rfl, _⟩ := o1.form
  obtain ⟨p2, c2, rfl, _⟩ := o2.form
  exact ⟨l1, hK h' _ _ _ _ _ _ B1 B2 l1 o1 o2 nd fr⟩)
theorem callX_20 {u : Unt} {x : Sx} {a b : Int} (hlow : ¬ (calledN u ⟨20, a, b⟩ < 0 ∨ (x.f.stack.length : Int) < calledN u ⟨20, a, b⟩)) : callX u x ⟨20, a, b⟩ =
    if x.fs.length + 1 = 4 then (wrongX x 6).res else (⟨x.objs, x.fs ++ [{ x.f with stack := x.f.stack.take (x.f.stack.length - (calledN u ⟨20, a, b⟩).toNat) }] ++ [callF u a (x.f.stack.drop (x.f.stack.length - (calledN u ⟨20, a, b⟩).toNat))], x.said, x.steps, x.fin, x.out⟩, x.st, x.ft) := by
  unfold callX
  rw [if_neg hlow]
  simp
theorem callX_21 {u : Unt} {x : Sx} {a b : Int} (hlow : ¬ (calledN u ⟨21, a, b⟩ < 0 ∨ (x.f.stack.length : Int) < calledN u ⟨21, a, b⟩)) {v0 : Vl} (hv : (x.f.stack.drop (x.f.stack.length - (calledN u ⟨21, a, b⟩).toNat)).getD 0 noVl = v0) : callX u x ⟨21, a, b⟩ =
    if v0.ref = false then ({ x with st := true } : Sx).res else if (thingX u x v0.n a).bad then (thingX u x v0.n a).res else if x.fs.length + 1 = 4 then (wrongX (thingX u x v0.n a) 6).res
    else (⟨x.objs, x.fs ++ [{ x.f with stack := x.f.stack.take (x.f.stack.length - (calledN u ⟨21, a, b⟩).toNat) }] ++ [callF u (find u (objN x.objs v0.n).cls b) (x.f.stack.drop (x.f.stack.length - (calledN u ⟨21, a, b⟩).toNat))], x.said, x.steps, x.fin, x.out⟩, (thingX u x v0.n a).st, (thingX u x v0.n a).ft) := by
  unfold callX
  rw [if_neg hlow]
  simp only [hv]
  by_cases h1 : v0.ref = false
  · simp [h1, Sx.bad]
  · simp [h1]
theorem call_x_20 {h0 h : Heap} {bx : Nat} {us : List Value} {u : Unt} {x : Sx} {B : List Nat} (hX : XS h0 h bx us u x B) (hs : SOk u x) (hu : UnitT u) (a b : Int) (hst : x.st = false) (hft : x.ft = 0)
    (ha : 0 ≤ a ∧ a < u.methods.length) :
    Rets Tryz.prog 168 [.pointer (some ⟨bx, 0, none⟩), .agg #[.int .i64 20, .int .i64 a, .int .i64 b]] h fun _ h' => XE h0 h bx us u B (callX u x ⟨20, a, b⟩) h' := by
  have ok := hu.1
  obtain ⟨bf, ht⟩ := hX.tp
  have htop := top_x hX ht hs.fs1
  have hs4 := hs.frm.2.2.2.1
  have hnf := hs.nf
  obtain ⟨r9, r10, _, _, _, p, cc, q, d, rfl, r0, rm, rus, hcs, hms⟩ := hX.rds
  have hcd := l13Called_c [.slice p u.classes.length cc, .slice q u.methods.length d] u 20 a b h (hX.un.le hX.ma.le) ok (by exact fun _ => ha) (by simp)
  have hlen := len_map vl2 x.f.stack
  have hin := hX.ma.in
  by_cases hlow : calledN u ⟨20, a, b⟩ < 0 ∨ (x.f.stack.length : Int) < calledN u ⟨20, a, b⟩
  · have hcx : callX u x ⟨20, a, b⟩ = ({ x with st := true } : Sx).res := if_pos hlow
    rw [hcx]
    generalize calledN u ⟨20, a, b⟩ = n at hcd hlow
    obtain ⟨p2, c2, r3, _⟩ := hX.rest ht hs.st1 (m := 0) (by omega)
    refine rets Tryz.sigOk Tryz.func168 Tryz.F168 Tryz.ok168 rfl ?_
    conv => whnf
    refine call_p htop ?_
    conv => whnf
    repeat' ((first | refine ldn rus ?_ | refine callX_p hcd ?_ | refine ob (by omega) ?_ | refine ar_in (by omega) (by omega) ?_ | refine ptr ?_) <;> conv => whnf)
    refine selP (fun g => ?_) (fun g => ?_)
    all_goals conv => whnf
    · refine hX.stuck (fun h1 hX1 ev1 e1 => ?_)
      conv => whnf
      exact ⟨B, hX1, ev1⟩
    · refine ld r3 ?_
      conv => whnf
      refine selPt (by omega) ?_
      conv => whnf
      refine hX.stuck (fun h1 hX1 ev1 e1 => ?_)
      conv => whnf
      exact ⟨B, hX1, ev1⟩
  have hcx := callX_20 hlow
  generalize calledN u ⟨20, a, b⟩ = n at *
  have hn0 : 0 ≤ n ∧ n ≤ x.f.stack.length := by omega
  obtain ⟨m, hm⟩ : ∃ m, m = x.f.stack.length - n.toNat := ⟨_, rfl⟩
  rw [← hm] at hcx
  generalize callX u x ⟨20, a, b⟩ = res at hcx ⊢
  obtain ⟨p2, c2, r3, hc2, hread, _⟩ := hX.rest ht hs.st1 (m := m) (by omega)
  have hcm : (((x.f.stack.map vl2).length : Int) - n).toNat = m := by omega
  have hgl : (x.f.stack.drop m).length = n.toNat := by simp; omega
  have hz : ∀ (h1 : Heap) (oa : Option Addr), h.le h1 → (c2 ≠ (((x.f.stack.map vl2).length : Int) - n).toNat → oa = p2.map fun a => a.add ((((x.f.stack.map vl2).length : Int) - n).toNat * 2)) → (c2 = (((x.f.stack.map vl2).length : Int) - n).toNat → oa = p2) →
      ReadV h1 (.slice oa ((x.f.stack.map vl2).length - (((x.f.stack.map vl2).length : Int) - n).toNat) (c2 - m)) (x.f.stack.drop m) := by
    rw [hcm]
    exact fun h1 oa l1 k1 k2 => (hread oa k1 k2).le l1
  refine rets Tryz.sigOk Tryz.func168 Tryz.F168 Tryz.ok168 rfl ?_
  conv => whnf
  refine call_p htop ?_
  conv => whnf
  repeat' ((first | refine ldn rus ?_ | refine callX_p hcd ?_ | refine ob (by omega) ?_ | refine ar_in (by omega) (by omega) ?_ | refine ptr ?_) <;> conv => whnf)
  refine selPf (by omega) ?_
  conv => whnf
  refine ld r3 ?_
  conv => whnf
  refine selPf (by omega) ?_
  conv => whnf
  have hsz : (List.map vl2 x.f.stack).length - (((List.map vl2 x.f.stack).length : Int) - n).toNat = ((x.f.stack.drop m).map vl2).length := by simp; omega
  repeat' ((first | exact trivial | refine And.intro ?_ ?_ | refine ld r3 ?_ | refine ld (rd_le l1 r3) ?_ | refine ob (by omega) ?_ | refine ar_in (by omega) (by omega) ?_ | refine new' [] rfl (fun b1 h1 hb1 ee1 l1 g1 => ?_) | refine Go.Proofs.sub (fun oa q1 q2 => ?_)) <;> conv => whnf)
  all_goals
    refine ReadC.ldp (hz h1 oa l1 q1 q2) ?_
    conv => whnf
    refine app_own (h0 := h) (xs := []) (ys := (x.f.stack.drop m).map vl2) (B := [b1]) (own_empty g1) (by simpa using hb1) l1 rfl hsz (fun y hy => by obtain ⟨w, _, rfl⟩ := List.mem_map.1 hy; rfl) (cellsOk_vl _) rfl (by simp; omega) (by simp; omega) ?_
    intro v' h2 Bg k1 k2 k3 k4 k5
    have k2' : OwnV h2 v' (x.f.stack.drop m) Bg := by rw [List.nil_append] at k2; exact k2
    have hf := k2'.form
    obtain ⟨pg, cg, rfl, _⟩ := hf
    conv => whnf
    have hm2 := hX.mono k1
    have hX2 : XS h0 h2 bx [.slice p u.classes.length cc, .slice q u.methods.length d] u x B := hm2.1
    have ht2 : Tp h2 bx x.fs.length bf := by obtain ⟨c0, q0⟩ := ht; exact ⟨c0, rd_le k1 q0⟩
    have rus2 := rdn_le' k1 rus
    refine ht2.elim fun cf hrf => ?_
    refine ld hrf ?_
    conv => whnf
    refine selP (fun gf => ?_) (fun gf => ?_)
    all_goals conv => whnf
    · refine call_r (wrong_x hX2 6) (fun v h3 hh => ?_)
      conv => whnf
      rw [hcx, if_pos (by omega)]
      exact XE.trans hm2.2.1 hh.toE
    · refine (hX2.rest ht2 hs.st1 (m := m) (by omega)).elim fun p3 hr => hr.elim fun c3 hr => ?_
      have w3 := hr.1
      have wc := hr.2.1
      have wst := hr.2.2.2
      rw [← hcm] at wst
      repeat' ((first | exact trivial | refine And.intro ?_ ?_ | refine ld w3 ?_ | refine ob (by omega) ?_ | refine ar_in (by omega) (by omega) ?_) <;> conv => whnf)
      all_goals
        refine wst _ (fun h3 hh => ?_)
        rw [hcm] at hh
        refine hh.elim fun B3 hh3 => ?_
        have hX3 := hh3.1
        have ev3 := hm2.2.1.trans hh3.2.1
        refine (XM.growF hX3 (show (x.fs ++ [_]).length ≤ 1000 by simp; omega)).elim fun pf hg => hg.elim fun cf2 hg => hg.elim fun hpf grow => ?_
        have rus3 := hX3.rds.2.2.2.2.2
        refine rus3.elim fun pa hr => hr.elim fun ca hr => hr.elim fun qa hr => hr.elim fun da hr => ?_
        have he := hr.1
        simp only [List.cons.injEq, Value.slice.injEq, true_and, and_true] at he
        have hea := he.1.1
        have heb := he.1.2
        have hec := he.2.1
        have hed := he.2.2
        subst hea heb hec hed
        have hrus3 := hr.2.2.2.1
        have hog : OwnV h3 (.slice pg ((x.f.stack.drop m).map vl2).length cg) (x.f.stack.drop m) Bg := k2'.keep fun b hb o ho => by
          rw [hh3.2.1.old b (by rw [ho]; simp) (fun hx => ?_)]
          · exact ho
          · obtain ⟨o2, ho2⟩ := hin b hx; rw [k3 b hb] at ho2; cases ho2
        have hfk : ∀ {K : Value → Heap → Prop} {E : List PanicEntry → Heap → Prop}, _ → CallX Tryz.prog 98 [.agg #[.slice p u.classes.length cc, .slice q u.methods.length d], .int .i64 (a), .slice pg ((x.f.stack.drop m).map vl2).length cg] h3 K E := fun {K E} hK => l13Frame_k _ u (a) (x.f.stack.drop m) _ h3 (hX.un.le hX3.ma.le) ha (hog.read (by simp; omega)) (by omega) (by have := (hu.mth ha).1.2.2.2.2.1; omega) hK
        conv => whnf
        repeat' ((first | exact trivial | refine And.intro ?_ ?_ | refine ldn hrus3 ?_ | refine ld hpf ?_ | refine ld (rd_le l4 hpf) ?_ | refine hfk (fun h4 p5 n5 c5 p6 n6 c6 B5 B6 l4 o5 o6 n56 f56 => ?_)) <;> conv => whnf)
        all_goals
          refine grow h4 l4 (callF u (a) (x.f.stack.drop m)) (B5 ++ B6) _ _ ⟨_, _, B5, B6, rfl, o5, o6, rfl⟩ n56 f56 rfl rfl rfl rfl (by simp) (fun p' c' h5 hst5 => ?_)
          conv => whnf
          refine hst5 _ (fun h6 hh6 => ?_)
          conv => whnf
          rw [hcx, if_neg (by omega)]
          exact XE.trans ev3 hh6
theorem call_x_21 {h0 h : Heap} {bx : Nat} {us : List Value} {u : Unt} {x : Sx} {B : List Nat} (hX : XS h0 h bx us u x B) (hs : SOk u x) (hu : UnitT u) (a b : Int) (hst : x.st = false) (hft : x.ft = 0)
    (ha : 0 ≤ a ∧ a < u.classes.length) (hsend : 0 ≤ find u a b → ∀ c : Int, c < u.classes.length → up u.classes c a = true → 0 ≤ find u c b) :
    Rets Tryz.prog 168 [.pointer (some ⟨bx, 0, none⟩), .agg #[.int .i64 21, .int .i64 a, .int .i64 b]] h fun _ h' => XE h0 h bx us u B (callX u x ⟨21, a, b⟩) h' := by
  have ok := hu.1
  obtain ⟨bf, ht⟩ := hX.tp
  have htop := top_x hX ht hs.fs1
  have hs4 := hs.frm.2.2.2.1
  have hnf := hs.nf
  obtain ⟨r9, r10, _, _, _, p, cc, q, d, rfl, r0, rm, rus, hcs, hms⟩ := hX.rds
  have hcd := l13Called_c [.slice p u.classes.length cc, .slice q u.methods.length d] u 21 a b h (hX.un.le hX.ma.le) ok (by simp) (by exact fun _ => ha)
  have hlen := len_map vl2 x.f.stack
  have hin := hX.ma.in
  by_cases hlow : calledN u ⟨21, a, b⟩ < 0 ∨ (x.f.stack.length : Int) < calledN u ⟨21, a, b⟩
  · have hcx : callX u x ⟨21, a, b⟩ = ({ x with st := true } : Sx).res := if_pos hlow
    rw [hcx]
    generalize calledN u ⟨21, a, b⟩ = n at hcd hlow
    obtain ⟨p2, c2, r3, _⟩ := hX.rest ht hs.st1 (m := 0) (by omega)
    refine rets Tryz.sigOk Tryz.func168 Tryz.F168 Tryz.ok168 rfl ?_
    conv => whnf
    refine call_p htop ?_
    conv => whnf
    repeat' ((first | refine ldn rus ?_ | refine callX_p hcd ?_ | refine ob (by omega) ?_ | refine ar_in (by omega) (by omega) ?_ | refine ptr ?_) <;> conv => whnf)
    refine selP (fun g => ?_) (fun g => ?_)
    all_goals conv => whnf
    · refine hX.stuck (fun h1 hX1 ev1 e1 => ?_)
      conv => whnf
      exact ⟨B, hX1, ev1⟩
    · refine ld r3 ?_
      conv => whnf
      refine selPt (by omega) ?_
      conv => whnf
      refine hX.stuck (fun h1 hX1 ev1 e1 => ?_)
      conv => whnf
      exact ⟨B, hX1, ev1⟩
  have hcnI : calledN u ⟨21, a, b⟩ = if 0 ≤ find u a b then ((mth u (find u a b)).args.length : Int) + 1 else -1 := rfl
  have hfa : 0 ≤ find u a b := by
    rw [hcnI] at hlow
    split at hlow
    · assumption
    · simp at hlow
  have hn1 : 1 ≤ calledN u ⟨21, a, b⟩ := by
    rw [hcnI, if_pos hfa]; omega
  clear hcnI
  obtain ⟨v0, hv0⟩ : ∃ v0, (x.f.stack.drop (x.f.stack.length - (calledN u ⟨21, a, b⟩).toNat)).getD 0 noVl = v0 := ⟨_, rfl⟩
  have hcx := callX_21 hlow hv0
  generalize calledN u ⟨21, a, b⟩ = n at *
  have hn0 : 0 ≤ n ∧ n ≤ x.f.stack.length := by omega
  obtain ⟨m, hm⟩ : ∃ m, m = x.f.stack.length - n.toNat := ⟨_, rfl⟩
  rw [← hm] at hcx hv0
  generalize callX u x ⟨21, a, b⟩ = res at hcx ⊢
  obtain ⟨p2, c2, r3, hc2, hread, _⟩ := hX.rest ht hs.st1 (m := m) (by omega)
  have hcm : (((x.f.stack.map vl2).length : Int) - n).toNat = m := by omega
  have hgl : (x.f.stack.drop m).length = n.toNat := by simp; omega
  have hg0 : 0 < (x.f.stack.drop m).length := by omega
  have hge : (x.f.stack.drop m)[0] = v0 := by rw [← hv0, getD_of hg0]
  have hv0m : v0 ∈ x.f.stack := by
    rw [← hge]
    exact List.mem_of_mem_drop (List.getElem_mem _)
  have hv0w := hs.frm.2.2.2.2.2 v0 hv0m
  have hol := hs.len.2
  have hz : ∀ (h1 : Heap) (oa : Option Addr), h.le h1 → (c2 ≠ (((x.f.stack.map vl2).length : Int) - n).toNat → oa = p2.map fun a => a.add ((((x.f.stack.map vl2).length : Int) - n).toNat * 2)) → (c2 = (((x.f.stack.map vl2).length : Int) - n).toNat → oa = p2) →
      ReadV h1 (.slice oa ((x.f.stack.map vl2).length - (((x.f.stack.map vl2).length : Int) - n).toNat) (c2 - m)) (x.f.stack.drop m) := by
    rw [hcm]
    exact fun h1 oa l1 k1 k2 => (hread oa k1 k2).le l1
  refine rets Tryz.sigOk Tryz.func168 Tryz.F168 Tryz.ok168 rfl ?_
  conv => whnf
  refine call_p htop ?_
  conv => whnf
  repeat' ((first | refine ldn rus ?_ | refine callX_p hcd ?_ | refine ob (by omega) ?_ | refine ar_in (by omega) (by omega) ?_ | refine ptr ?_) <;> conv => whnf)
  refine selPf (by omega) ?_
  conv => whnf
  refine ld r3 ?_
  conv => whnf
  refine selPf (by omega) ?_
  conv => whnf
  have hsz : (List.map vl2 x.f.stack).length - (((List.map vl2 x.f.stack).length : Int) - n).toNat = ((x.f.stack.drop m).map vl2).length := by simp; omega
  repeat' ((first | exact trivial | refine And.intro ?_ ?_ | refine ld r3 ?_ | refine ld (rd_le l1 r3) ?_ | refine ob (by omega) ?_ | refine ar_in (by omega) (by omega) ?_ | refine new' [] rfl (fun b1 h1 hb1 ee1 l1 g1 => ?_) | refine Go.Proofs.sub (fun oa q1 q2 => ?_)) <;> conv => whnf)
  all_goals
    refine ReadC.ldp (hz h1 oa l1 q1 q2) ?_
    conv => whnf
    refine app_own (h0 := h) (xs := []) (ys := (x.f.stack.drop m).map vl2) (B := [b1]) (own_empty g1) (by simpa using hb1) l1 rfl hsz (fun y hy => by obtain ⟨w, _, rfl⟩ := List.mem_map.1 hy; rfl) (cellsOk_vl _) rfl (by simp; omega) (by simp; omega) ?_
    intro v' h2 Bg k1 k2 k3 k4 k5
    have k2' : OwnV h2 v' (x.f.stack.drop m) Bg := by rw [List.nil_append] at k2; exact k2
    have hf := k2'.form
    obtain ⟨pg, cg, rfl, _⟩ := hf
    conv => whnf
    have hm2 := hX.mono k1
    have hX2 : XS h0 h2 bx [.slice p u.classes.length cc, .slice q u.methods.length d] u x B := hm2.1
    have ht2 : Tp h2 bx x.fs.length bf := by obtain ⟨c0, q0⟩ := ht; exact ⟨c0, rd_le k1 q0⟩
    have rus2 := rdn_le' k1 rus
    refine (k2'.two hg0).elim fun bg htw => ?_
    have hpg := htw.1
    subst hpg
    have hn0' := htw.2.1
    rw [hge] at hn0'
    have w0 := rdn_get hn0' (i := 0) rfl
    have w1 := rdn_get hn0' (i := 1) rfl
    have hgl2 : ((x.f.stack.drop m).map vl2).length = (x.f.stack.drop m).length := by simp
    repeat' ((first | refine ld w0 ?_ | refine ob (by omega) ?_ | refine ar_in (by omega) (by omega) ?_ | refine ptr ?_) <;> conv => whnf)
    refine selNB (fun gr => ?_) (fun gr => ?_)
    all_goals conv => whnf
    · refine hX2.stuck (fun h3 hX3 ev3 e3 => ?_)
      conv => whnf
      rw [hcx, if_pos gr]
      exact ⟨B, hX3, hm2.2.1.trans ev3⟩
    have hnr : ¬ v0.ref = false := by rw [gr]; simp
    have hv0n := hv0w.1 gr
    repeat' ((first | exact trivial | refine And.intro ?_ ?_ | refine ld w1 ?_ | refine ob (by omega) ?_ | refine ptr ?_) <;> conv => whnf)
    all_goals
      refine call_r (thing_x hX2 hs ok v0.n a hv0n (by omega)) (fun v ht3 hh => ?_)
      refine hh.2.1.elim fun bn hv => hv.elim fun on hv => ?_
      subst hv
      refine hh.1.elim fun Bt3 hht => ?_
      have hXt := hht.1
      have hgood := hh.2.2
      have evt := hm2.2.1.trans hht.2.1
      have ev23 := hht.2.1
      have rt3 := hht.2.2
      by_cases hbad : (thingX u x v0.n a).bad
      · have r9 := hXt.rds.1
        have r10 := hXt.rds.2.1
        conv => whnf
        refine ld r9 ?_
        conv => whnf
        refine selB (fun g => ?_) (fun g => ?_)
        all_goals conv => whnf
        · rw [hcx, if_neg hnr, if_pos hbad]
          exact ⟨Bt3, hXt, evt⟩
        · refine ld r10 ?_
          conv => whnf
          refine selPt (hbad.resolve_left (by rw [g]; simp)) ?_
          conv => whnf
          rw [hcx, if_neg hnr, if_pos hbad]
          exact ⟨Bt3, hXt, evt⟩
      have hg := hgood hbad
      have hnpos := hg.1
      have hth := hg.2.1
      have hnb := thingX_good hs hbad
      refine hg.2.2.elim fun bo hg => hg.elim fun co hg => ?_
      have hbo := hg.1
      have hp := hg.2
      simp only [Value.pointer.injEq, Option.some.injEq, Addr.mk.injEq, and_true] at hp
      have hp1 := hp.1
      have hp2 := hp.2
      subst hp1
      subst hp2
      rw [hth] at hXt hbad hcx
      have hcl : 0 ≤ (objN x.objs v0.n).cls ∧ up u.classes (objN x.objs v0.n).cls a = true := by
        unfold isBad at hnb
        simp at hnb
        exact hnb.2 ha.1
      have hO := hs.obs _ (objN_in (objs := x.objs) hnpos hv0n.2)
      have hclu : (objN x.objs v0.n).cls < u.classes.length := by
        rcases hO.2 with ⟨h2, _⟩ | ⟨_, h2, _⟩
        · omega
        · exact h2
      refine (hXt.objAt hnpos hv0n.2).elim fun bo2 hq => hq.elim fun co2 hq => hq.elim fun vv hq => hq.elim fun Bi hq => ?_
      have hbo2 := hq.1
      rw [hbo] at hbo2
      simp only [Option.some.injEq, Value.slice.injEq, Addr.mk.injEq, and_true, true_and] at hbo2
      have hb2 := hbo2.1
      subst hb2
      have q3 := hq.2.1
      have r9 := hXt.rds.1
      have r10 := hXt.rds.2.1
      rw [hst] at r9
      rw [hft] at r10
      have hut := hX.un.le hXt.ma.le
      have hfnd := l3Find_c [.slice p u.classes.length cc, .slice q u.methods.length d] u (objN x.objs v0.n).cls b ht3 hut ok (by omega) hclu
      have hkk : 0 ≤ find u (objN x.objs v0.n).cls b ∧ find u (objN x.objs v0.n).cls b < u.methods.length := ⟨hsend hfa _ hclu hcl.2, (find_bound u _ _).2⟩
      have hrus := hXt.rds.2.2.2.2.2
      refine hrus.elim fun pa hr => hr.elim fun ca hr => hr.elim fun qa hr => hr.elim fun da hr => ?_
      have he := hr.1
      simp only [List.cons.injEq, Value.slice.injEq, true_and, and_true] at he
      have hea := he.1.1
      have heb := he.1.2
      have hec := he.2.1
      have hed := he.2.2
      subst hea heb hec hed
      have hrust := hr.2.2.2.1
      generalize (objN x.objs v0.n).cls = cl at *
      generalize hkg : find u cl b = kk at *
      conv => whnf
      repeat' ((first | refine ld r9 ?_ | refine ld r10 ?_ | refine ob (by omega) ?_ | refine ar_in (by omega) (by omega) ?_ | refine ptr ?_) <;> conv => whnf)
      repeat' ((first | exact trivial | refine And.intro ?_ ?_ | refine ldn hrust ?_ | refine ld q3 ?_ | refine callX_p hfnd ?_) <;> conv => whnf)
      all_goals
        have ht2t : Tp ht3 bx x.fs.length bf := by obtain ⟨c0, q0⟩ := ht2; exact ⟨c0, by rw [rt3]; exact q0⟩
        have hog3 : OwnV ht3 (.slice (some ⟨bg, 0, none⟩) ((x.f.stack.drop m).map vl2).length cg) (x.f.stack.drop m) Bg := k2'.keep fun b hb o ho => by
          rw [ev23.old b (by rw [ho]; simp) (fun hx => by obtain ⟨o2, ho2⟩ := hin b hx; rw [k3 b hb] at ho2; cases ho2)]
          exact ho
        have hnin : ∀ b ∈ Bg, b ∉ bx :: Bt3 := fun b hb hx => by
          rcases ev23.new b hx with hy | hy
          · obtain ⟨o2, ho2⟩ := hin b hy; rw [k3 b hb] at ho2; cases ho2
          · obtain ⟨o2, ho2⟩ := k2'.in b hb; rw [hy] at ho2; cases ho2
        refine ht2t.elim fun cf hrf => ?_
        refine ld hrf ?_
        conv => whnf
        refine selP (fun gf => ?_) (fun gf => ?_)
        all_goals conv => whnf
        · refine call_r (wrong_x hXt 6) (fun v h3 hh => ?_)
          conv => whnf
          rw [hcx, if_neg hnr, if_neg hbad, if_pos (by omega)]
          exact XE.trans evt hh.toE
        · refine (hXt.rest ht2t hs.st1 (m := m) (by omega)).elim fun p3 hr => hr.elim fun c3 hr => ?_
          have w3 := hr.1
          have wc := hr.2.1
          have wst := hr.2.2.2
          rw [← hcm] at wst
          repeat' ((first | exact trivial | refine And.intro ?_ ?_ | refine ld w3 ?_ | refine ob (by omega) ?_ | refine ar_in (by omega) (by omega) ?_) <;> conv => whnf)
          all_goals
            refine wst _ (fun h3 hh => ?_)
            rw [hcm] at hh
            refine hh.elim fun B3 hh3 => ?_
            have hX3 := hh3.1
            have ev3 := evt.trans hh3.2.1
            refine (XM.growF hX3 (show (x.fs ++ [_]).length ≤ 1000 by simp; omega)).elim fun pf hg => hg.elim fun cf2 hg => hg.elim fun hpf grow => ?_
            have rus3 := hX3.rds.2.2.2.2.2
            refine rus3.elim fun pa hr => hr.elim fun ca hr => hr.elim fun qa hr => hr.elim fun da hr => ?_
            have he := hr.1
            simp only [List.cons.injEq, Value.slice.injEq, true_and, and_true] at he
            have hea := he.1.1
            have heb := he.1.2
            have hec := he.2.1
            have hed := he.2.2
            subst hea heb hec hed
            have hrus3 := hr.2.2.2.1
            have hog : OwnV h3 (.slice (some ⟨bg, 0, none⟩) ((x.f.stack.drop m).map vl2).length cg) (x.f.stack.drop m) Bg := hog3.keep fun b hb o ho => by
              rw [hh3.2.1.old b (by rw [ho]; simp) (fun hx => ?_)]
              · exact ho
              · exact hnin b hb hx
            have hfk : ∀ {K : Value → Heap → Prop} {E : List PanicEntry → Heap → Prop}, _ → CallX Tryz.prog 98 [.agg #[.slice p u.classes.length cc, .slice q u.methods.length d], .int .i64 kk, .slice (some ⟨bg, 0, none⟩) ((x.f.stack.drop m).map vl2).length cg] h3 K E := fun {K E} hK => l13Frame_k _ u kk (x.f.stack.drop m) _ h3 (hX.un.le hX3.ma.le) hkk (hog.read (by simp; omega)) (by omega) (by have := (hu.mth hkk).1.2.2.2.2.1; omega) hK
            conv => whnf
            repeat' ((first | exact trivial | refine And.intro ?_ ?_ | refine ldn hrus3 ?_ | refine ld hpf ?_ | refine ld (rd_le l4 hpf) ?_ | refine hfk (fun h4 p5 n5 c5 p6 n6 c6 B5 B6 l4 o5 o6 n56 f56 => ?_)) <;> conv => whnf)
            all_goals
              refine grow h4 l4 (callF u kk (x.f.stack.drop m)) (B5 ++ B6) _ _ ⟨_, _, B5, B6, rfl, o5, o6, rfl⟩ n56 f56 rfl rfl rfl rfl (by simp) (fun p' c' h5 hst5 => ?_)
              conv => whnf
              refine hst5 _ (fun h6 hh6 => ?_)
              conv => whnf
              rw [hcx, if_neg hnr, if_neg hbad, if_neg (by omega)]
              exact XE.trans ev3 hh6
end Go.Proofs
namespace Go.Proofs
open Go.Vc
set_option maxRecDepth 100000
set_option maxHeartbeats 4000000
def Kp (x y : Sx) : Prop := y.fs = x.fs ∧ y.f.pc = x.f.pc ∧ y.f.meth = x.f.meth
theorem Kp.refl (x : Sx) : Kp x x := ⟨rfl, rfl, rfl⟩
theorem Kp.trans {x y z : Sx} (a : Kp x y) (b : Kp y z) : Kp x z := ⟨b.1.trans a.1, b.2.1.trans a.2.1, b.2.2.trans a.2.2⟩
theorem kp_pop (x : Sx) : Kp x (popX x).2 := by unfold popX; split <;> exact ⟨rfl, rfl, rfl⟩
theorem kp_word (x : Sx) : Kp x (wordX x).2 := by unfold wordX; split <;> exact kp_pop x
theorem kp_ref (x : Sx) : Kp x (refX x).2 := by unfold refX; split <;> exact kp_pop x
theorem kp_push (x : Sx) (v : Vl) : Kp x (pushX x v) := pushX_fs x v
theorem kp_wrong (x : Sx) (k : Int) : Kp x (wrongX x k) := by unfold wrongX; split <;> exact ⟨rfl, rfl, rfl⟩
theorem kp_thing (u : Unt) (x : Sx) (n k : Int) : Kp x (thingX u x n k) := by
  unfold thingX
  split
  · exact Kp.refl x
  · split
    · exact kp_wrong x 2
    · split <;> exact ⟨rfl, rfl, rfl⟩
theorem kp_made (x : Sx) (o : Ob) : Kp x (madeX x o) := by
  unfold madeX
  split
  · exact Kp.refl x
  · exact (show Kp x { x with objs := x.objs ++ [o] } from ⟨rfl, rfl, rfl⟩).trans (kp_push _ _)
theorem kp_op (x : Sx) (op : Int) : Kp x (opX x op) := by
  unfold opX
  simp only
  split
  · exact ((kp_word x).trans (kp_word _)).trans (kp_push _ _)
  · exact ((kp_word x).trans (kp_word _)).trans (kp_wrong _ _)
theorem kp_array (x : Sx) (k : Int) : Kp x (arrayX x k) := by
  unfold arrayX
  split
  · exact (kp_word x).trans (kp_made _ _)
  · exact ((kp_word x).trans (kp_wrong _ _)).trans (kp_made _ _)
theorem kp_size (x : Sx) : Kp x (sizeX x) := by
  unfold sizeX
  simp only
  split
  · exact kp_ref x
  · split
    · exact (kp_ref x).trans (kp_wrong _ _)
    · exact (kp_ref x).trans (kp_push _ _)
theorem kp_elem (u : Unt) (x : Sx) (k : Int) (s : Bool) : Kp x (elemX u x k s) := by
  cases s
  · have h1 := ((kp_word x).trans (kp_ref _)).trans (kp_thing u _ (refX (wordX x).2).1 (-1 - k))
    unfold elemX
    simp only [Bool.false_eq_true, if_false]
    split
    · exact h1
    · split
      · exact h1.trans (kp_wrong _ _)
      · exact h1.trans (kp_push _ _)
  · have h1 := (((kp_pop x).trans (kp_word _)).trans (kp_ref _)).trans (kp_thing u _ (refX (wordX (popX x).2).2).1 (-1 - k))
    unfold elemX
    simp only [if_true]
    split
    · exact h1
    · split
      · exact h1.trans (kp_wrong _ _)
      · exact h1.trans ⟨rfl, rfl, rfl⟩
theorem kp_field (u : Unt) (x : Sx) (k i : Int) (s : Bool) : Kp x (fieldX u x k i s) := by
  cases s
  · have h1 := (kp_ref x).trans (kp_thing u _ (refX x).1 k)
    unfold fieldX
    simp only [Bool.false_eq_true, if_false]
    split
    · exact h1
    · exact h1.trans (kp_push _ _)
  · have h1 := ((kp_pop x).trans (kp_ref _)).trans (kp_thing u _ (refX (popX x).2).1 k)
    unfold fieldX
    simp only [if_true]
    split
    · exact h1
    · exact h1.trans ⟨rfl, rfl, rfl⟩
theorem kp_cast (u : Unt) (x : Sx) (k : Int) : Kp x (castX u x k) := by
  unfold castX
  simp only
  split
  · exact kp_ref x
  · split
    · exact (kp_ref x).trans (kp_wrong _ _)
    · exact (kp_ref x).trans (kp_push _ _)
theorem kp_plain (x : Sx) (i : Ins) : Kp x (plainX x i) := by
  unfold plainX
  split
  · exact kp_push _ _
  split
  · exact kp_push _ _
  split
  · exact kp_push _ _
  split
  · exact kp_pop x
  split
  · exact kp_pop x
  split
  · exact ((kp_pop x).trans (kp_push _ _)).trans (kp_push _ _)
  split
  · exact kp_op _ _
  split
  · split <;> exact kp_word x
  · exact Kp.refl x
theorem kp_look (u : Unt) (x : Sx) (i : Ins) : Kp x (lookX u x i) := by
  unfold lookX
  split
  · exact kp_made _ _
  split
  · exact kp_array _ _
  split
  · exact kp_size _
  split
  · exact kp_elem _ _ _ _
  split
  · exact kp_elem _ _ _ _
  split
  · exact kp_field _ _ _ _ _
  split
  · exact kp_field _ _ _ _ _
  split
  · exact kp_cast _ _ _
  · exact Kp.refl x
theorem kp_leads (x : Sx) (i : Ins) : Kp x (leadsX x i).2 := by
  unfold leadsX
  split
  · exact (kp_word x).trans (kp_word _)
  split
  · exact (kp_word x).trans (kp_word _)
  split
  · exact kp_ref x
  · exact Kp.refl x
theorem look_id {h0 h : Heap} {bx : Nat} {us : List Value} {u : Unt} {x : Sx} {B : List Nat} (hX : XS h0 h bx us u x B) (kind a b : Int) (hk : kind < 12 ∨ 19 < kind) :
    Rets Tryz.prog 174 [.pointer (some ⟨bx, 0, none⟩), .agg #[.int .i64 kind, .int .i64 a, .int .i64 b]] h fun _ h' => XR h0 h bx us u B (lookX u x ⟨kind, a, b⟩) h' := by
  have hp : lookX u x ⟨kind, a, b⟩ = x := by
    unfold lookX
    simp only
    repeat rw [if_neg (by omega)]
  rw [hp]
  refine rets Tryz.sigOk Tryz.func174 Tryz.F174 Tryz.ok174 rfl ?_
  conv => whnf
  repeat' ((first | refine selPf (by omega) ?_) <;> conv => whnf)
  exact ⟨B, hX, Ev.refl _ _, rfl⟩
def bumpX (x : Sx) : Sx := { x with f := { x.f with pc := x.f.pc + 1 } }
def stepX (u : Unt) (x : Sx) (i : Ins) : Mch × Bool × Int :=
  if i.kind = 22 then backX x
  else if i.kind = 20 ∨ i.kind = 21 then callX u x i
  else if i.kind = 23 then (if (refX x).1 = 0 then (wrongX (refX x).2 2).res else if (refX x).2.st = false then throwX u (refX x).1 (refX x).2.mch (refX x).2.st (refX x).2.ft else (refX x).2.res)
  else if 8 ≤ i.kind ∧ i.kind ≤ 11 then (if (leadsX (bumpX x) i).1 = true then ({ (leadsX (bumpX x) i).2 with f := { (leadsX (bumpX x) i).2.f with pc := i.a } } : Sx).res else (leadsX (bumpX x) i).2.res)
  else (bumpX (lookX u (plainX x i) i)).res
theorem SOk.bump {u : Unt} {x : Sx} (h : SOk u x) (hpc : x.f.pc < (mth u x.f.meth).code.length) : SOk u (bumpX x) := by
  obtain ⟨h1, h2, h3, ⟨k1, k2, k3, k4, k5, k6⟩, h5⟩ := h
  exact ⟨h1, h2, h3, ⟨k1, ⟨by show 0 ≤ x.f.pc + 1; omega, by show x.f.pc + 1 ≤ ((mth u x.f.meth).code.length : Int); omega⟩, k3, k4, k5, k6⟩, h5⟩
structure StOk (u : Unt) (x : Sx) : Prop where
  ok : SOk u x
  fs : ∀ g ∈ x.fs, FrW u x.objs.length g
  st : x.st = false
  ft : x.ft = 0
  pc : x.f.pc < (mth u x.f.meth).code.length
  said : x.said.length ≤ 300
theorem step_x {h0 h : Heap} {bx : Nat} {us : List Value} {u : Unt} {x : Sx} {B : List Nat} (hX : XS h0 h bx us u x B) (hs : StOk u x) (hu : UnitT u) (kind a b : Int) (hi : InsT u (mth u x.f.meth) ⟨kind, a, b⟩) :
    Rets Tryz.prog 99 [.pointer (some ⟨bx, 0, none⟩), .agg #[.int .i64 kind, .int .i64 a, .int .i64 b]] h fun _ h' => XE h0 h bx us u B (stepX u x ⟨kind, a, b⟩) h' := by
  obtain ⟨hs, hfs, hst, hft, hpc, hsaid⟩ := hs
  have ok := hu.1
  have hmT := hu.mth hs.frm.1
  have hcl : ∀ m ∈ u.methods, m.code.length ≤ 1000 := fun m hm => by have := (hu.2.2.2.1 m hm).2.1.2.1; omega
  have hpc0 := hs.frm.2.1
  have hpc9 := hcl _ (mth_mem hs.frm.1)
  have hsx : stepX u x ⟨kind, a, b⟩ = if kind = 22 then backX x
    else if kind = 20 ∨ kind = 21 then callX u x ⟨kind, a, b⟩
    else if kind = 23 then (if (refX x).1 = 0 then (wrongX (refX x).2 2).res else if (refX x).2.st = false then throwX u (refX x).1 (refX x).2.mch (refX x).2.st (refX x).2.ft else (refX x).2.res)
    else if 8 ≤ kind ∧ kind ≤ 11 then (if (leadsX (bumpX x) ⟨kind, a, b⟩).1 = true then ({ (leadsX (bumpX x) ⟨kind, a, b⟩).2 with f := { (leadsX (bumpX x) ⟨kind, a, b⟩).2.f with pc := a } } : Sx).res else (leadsX (bumpX x) ⟨kind, a, b⟩).2.res)
    else (bumpX (lookX u (plainX x ⟨kind, a, b⟩) ⟨kind, a, b⟩)).res := rfl
  generalize stepX u x ⟨kind, a, b⟩ = res at hsx ⊢
  by_cases k22 : kind = 22
  · subst k22
    refine rets Tryz.sigOk Tryz.func99 Tryz.F99 Tryz.ok99 rfl ?_
    conv => whnf
    refine call_r (back_x hX hs hfs hcl) (fun v h1 hh => ?_)
    conv => whnf
    rw [hsx]
    exact hh
  rw [if_neg k22] at hsx
  by_cases k20 : kind = 20
  · subst k20
    have := (InsT_iff (p := 7) (q := 0) rfl).1 hi
    simp [OperT] at this
    have ha := this.1.1
    refine rets Tryz.sigOk Tryz.func99 Tryz.F99 Tryz.ok99 rfl ?_
    conv => whnf
    refine call_r (call_x_20 hX hs hu a b hst hft ha) (fun v h1 hh => ?_)
    conv => whnf
    rw [hsx]
    exact hh
  by_cases k21 : kind = 21
  · subst k21
    have := (InsT_iff (p := 5) (q := 9) rfl).1 hi
    simp [OperT] at this
    have ha := this.1
    refine rets Tryz.sigOk Tryz.func99 Tryz.F99 Tryz.ok99 rfl ?_
    conv => whnf
    refine call_r (call_x_21 hX hs hu a b hst hft ha (fun hf c hc hup => (find_down hu ha.2 hf (c.toNat + 1) (by omega) hc hup).1)) (fun v h1 hh => ?_)
    conv => whnf
    rw [hsx]
    exact hh
  rw [if_neg (by omega)] at hsx
  by_cases k23 : kind = 23
  · subst k23
    rw [if_pos rfl] at hsx
    have hs1 := hs.ref
    have hrf := ref_x hX hs
    have hkp := kp_ref x
    have hob : (refX x).2.objs = x.objs := (refX_fs x).2.1
    generalize (refX x).1 = n at *
    generalize (refX x).2 = y at *
    refine rets Tryz.sigOk Tryz.func99 Tryz.F99 Tryz.ok99 rfl ?_
    conv => whnf
    refine call_r hrf (fun v h1 hh => ?_)
    have hv := hh.1
    subst hv
    refine hh.2.elim fun B1 hh1 => ?_
    have hX1 := hh1.1
    conv => whnf
    refine selP (fun g => ?_) (fun g => ?_)
    all_goals conv => whnf
    · refine call_r (wrong_x hX1 2) (fun v h2 hh => ?_)
      conv => whnf
      rw [hsx, if_pos g]
      exact XE.trans hh1.2.1 hh.toE
    · have r9 := hX1.rds.1
      refine ld r9 ?_
      conv => whnf
      refine selNB (fun g2 => ?_) (fun g2 => ?_)
      all_goals conv => whnf
      · have hn : 0 < n ∧ n ≤ y.objs.length := by rw [hob]; omega
        have hO := hs1.1.obs _ (objN_in (objs := y.objs) hn.1 hn.2)
        have hcls : -2 ≤ (objN y.objs n).cls ∧ (objN y.objs n).cls < u.classes.length := by
          rcases hO.2 with ⟨h2, _⟩ | ⟨h2, h3, _⟩
          · have := ok.1; omega
          · omega
        have hlen := hs1.1.len
        have hnf := hs1.1.nf
        have hfr : ∀ g ∈ y.mch.frames, 0 ≤ g.meth ∧ g.meth < u.methods.length := fun g hg => by
          have hg' : g ∈ y.fs ++ [y.f] := hg
          simp only [List.mem_append, List.mem_singleton] at hg'
          rcases hg' with hg' | rfl
          · rw [hkp.1] at hg'; exact (hfs g hg').1
          · exact hs1.1.frm.1
        have hct : ∀ m ∈ u.methods, ∀ c ∈ m.catches, (0 ≤ c.hi ∧ c.hi ≤ 1000) ∧ 0 ≤ c.cls := fun m hm c hc => by
          have hmt := hu.2.2.2.1 m hm
          have h1 := hmt.2.2.2 c hc
          have h2 := hmt.2.1.2.1
          obtain ⟨q1, q2, q3, _⟩ := h1
          omega
        refine call_r (throw_x hX1 ok n hn (show y.objs.length ≤ 1000 by omega) (show (y.fs ++ [y.f]).length ≤ 1000 by simp; omega) hcls hfr hct) (fun v h2 hh => ?_)
        conv => whnf
        rw [hsx, if_neg g, if_pos g2]
        exact XE.trans hh1.2.1 hh
      · rw [hsx, if_neg g, if_neg (by rw [g2]; simp)]
        exact ⟨B1, hX1, hh1.2.1⟩
  rw [if_neg k23] at hsx
  by_cases kj : 8 ≤ kind ∧ kind ≤ 11
  · rw [if_pos kj] at hsx
    obtain ⟨bf, ht⟩ := hX.tp
    have htop := top_x hX ht hs.fs1
    have hz := hX.stPc ht
    have hsb := hs.bump hpc
    have hkp := kp_leads (bumpX x) ⟨kind, a, b⟩
    refine rets Tryz.sigOk Tryz.func99 Tryz.F99 Tryz.ok99 rfl ?_
    conv => whnf
    refine selPf k22 ?_
    conv => whnf
    repeat' ((first | refine selPf (by omega) ?_) <;> conv => whnf)
    refine call_p (l6In_c _ _ _ _) ?_
    conv => whnf
    refine selPt (by omega) ?_
    conv => whnf
    refine call_p htop ?_
    conv => whnf
    refine ld hz.1 ?_
    conv => whnf
    refine ar_in (by omega) (by omega) ?_
    conv => whnf
    refine hz.2 _ _ (fun h1 hh => ?_)
    refine hh.elim fun B1 hh1 => ?_
    have hX1 : XS h0 h1 bx us u (bumpX x) B1 := hh1.1
    conv => whnf
    refine call_r (leads_x hX1 hsb kind a b) (fun v h2 hh => ?_)
    have hv := hh.1
    subst hv
    refine hh.2.elim fun B2 hh2 => ?_
    have hX2 := hh2.1
    have ev2 := hh1.2.1.trans hh2.2.1
    have ht2 : Tp h2 bx (leadsX (bumpX x) ⟨kind, a, b⟩).2.fs.length bf := by
      obtain ⟨c0, q0⟩ := ht
      exact ⟨c0, by rw [hh2.2.2, hh1.2.2, hkp.1]; exact q0⟩
    have hz2 := hX2.stPc ht2
    have hidx : (leadsX (bumpX x) ⟨kind, a, b⟩).2.fs.length = x.fs.length := by rw [hkp.1]; rfl
    rw [hidx] at hz2
    conv => whnf
    refine selB (fun g => ?_) (fun g => ?_)
    all_goals conv => whnf
    · refine hz2.2 _ _ (fun h3 hh3 => ?_)
      conv => whnf
      rw [hsx, if_pos g]
      exact XE.trans ev2 hh3.toE
    · rw [hsx, if_neg (by rw [g]; simp)]
      exact ⟨B2, hX2, ev2⟩
  rw [if_neg kj] at hsx
  have hxi : XiOk u x ⟨kind, a, b⟩ := by
    refine ⟨fun hk => ?_, fun hk => ?_, hi.things⟩
    · simp only at hk
      have hl := hs.frm.2.2.1
      rcases hk with rfl | rfl
      all_goals
        have := (InsT_iff (p := 2) (q := 0) rfl).1 hi
        simp [OperT] at this
        show 0 ≤ a ∧ a < (x.f.locals.length : Int)
        omega
    · simp only at hk
      rcases hk with rfl | rfl | rfl
      all_goals
        have := (InsT_iff (p := 6) (q := 0) rfl).1 hi
        simp [OperT] at this
        exact this.1
  have hlook : ∀ (h1 : Heap) (B1 : List Nat), XS h0 h1 bx us u (plainX x ⟨kind, a, b⟩) B1 → Rets Tryz.prog 174 [.pointer (some ⟨bx, 0, none⟩), .agg #[.int .i64 kind, .int .i64 a, .int .i64 b]] h1 fun _ h' => XR h0 h1 bx us u B1 (lookX u (plainX x ⟨kind, a, b⟩) ⟨kind, a, b⟩) h' := by
    intro h1 B1 hX1
    by_cases hk : kind < 12 ∨ 19 < kind
    · exact look_id hX1 kind a b hk
    · have hp : plainX x ⟨kind, a, b⟩ = x := by
        unfold plainX
        simp only
        repeat rw [if_neg (by omega)]
      rw [hp] at hX1 ⊢
      exact look_x hX1 hs ok kind a b hxi
  have hkp := (kp_plain x ⟨kind, a, b⟩).trans (kp_look u (plainX x ⟨kind, a, b⟩) ⟨kind, a, b⟩)
  refine rets Tryz.sigOk Tryz.func99 Tryz.F99 Tryz.ok99 rfl ?_
  conv => whnf
  refine selPf k22 ?_
  conv => whnf
  repeat' ((first | refine selPf (by omega) ?_) <;> conv => whnf)
  refine call_p (l6In_c _ _ _ _) ?_
  conv => whnf
  refine selPf (by omega) ?_
  conv => whnf
  refine call_r (plain_x hX hs kind a b hxi (by omega)) (fun v h1 hh => ?_)
  refine hh.elim fun B1 hh1 => ?_
  conv => whnf
  refine call_r (hlook h1 B1 hh1.1) (fun v h2 hh => ?_)
  refine hh.elim fun B2 hh2 => ?_
  have hX2 := hh2.1
  have ev2 := hh1.2.1.trans hh2.2.1
  generalize lookX u (plainX x ⟨kind, a, b⟩) ⟨kind, a, b⟩ = y at hX2 hkp hsx
  refine hX2.tp.elim fun bf ht => ?_
  have hfl : y.fs.length ≤ 1000 := by rw [hkp.1]; exact hs.fs1
  have hz := hX2.stPc ht
  have hyp := hkp.2.1
  conv => whnf
  refine call_p (top_x hX2 ht hfl) ?_
  conv => whnf
  refine ld hz.1 ?_
  conv => whnf
  refine ar_in (by omega) (by omega) ?_
  conv => whnf
  refine hz.2 _ _ (fun h3 hh3 => ?_)
  conv => whnf
  rw [hsx]
  exact XE.trans ev2 hh3.toE
end Go.Proofs
namespace Go.Proofs
open Go.Vc
set_option maxRecDepth 100000
set_option maxHeartbeats 4000000
theorem app_copy {el : TypeId} {h h1 : Heap} {b : Nat} {t : TypeId} {l : List Vl} {vs : List Value} {m : Nat} {K : Value → Heap → Prop} (hl : h.le h1) (hg : h1 b = some (.cells #[] t (0, 0))) (hb : h b = none) (hv : vs = (l.map vl2).flatten) (hm : m = (l.map vl2).length) (hs : (l.map vl2).length ≤ 1000000)
    (hk : ∀ p' c' h2 B', h.le h2 → OwnV h2 (.slice p' (l.map vl2).length c') l B' → (∀ b ∈ B', h b = none) → K (.slice p' (l.map vl2).length c') h2) : App 16 2 [.bool false, .int .i64 0] el h1 (some ⟨b, 0, none⟩) 0 0 m vs K := by
  refine app_own (h0 := h) (xs := []) (ys := l.map vl2) (B := [b]) (own_empty hg) (by simpa using hb) hl hv hm (fun y hy => by obtain ⟨w, _, rfl⟩ := List.mem_map.1 hy; rfl) (by rw [hv]; exact cellsOk_vl l) rfl (by simp at hs ⊢; omega) (by simp at hs ⊢; omega) ?_
  intro v' h2 B2 k1 k2 k3 k4 k5
  rw [List.nil_append] at k2
  obtain ⟨p', c', rfl, _⟩ := OwnC.form k2
  exact hk p' c' h2 B2 k1 k2 k3
theorem app_copyI {el : TypeId} {h h1 : Heap} {b : Nat} {t : TypeId} {l : List Int} {vs : List Value} {m : Nat} {K : Value → Heap → Prop} (hl : h.le h1) (hg : h1 b = some (.cells #[] t (0, 0))) (hb : h b = none) (hv : vs = (l.map int1).flatten) (hm : m = (l.map int1).length) (hs : (l.map int1).length ≤ 1000000)
    (hk : ∀ p' c' h2 B', h.le h2 → OwnI h2 (.slice p' (l.map int1).length c') l B' → (∀ b ∈ B', h b = none) → K (.slice p' (l.map int1).length c') h2) : App 8 1 [.int .i64 0] el h1 (some ⟨b, 0, none⟩) 0 0 m vs K := by
  refine app_own (h0 := h) (xs := []) (ys := l.map int1) (B := [b]) (own_empty hg) (by simpa using hb) hl hv hm (fun y hy => by obtain ⟨w, _, rfl⟩ := List.mem_map.1 hy; rfl) (by rw [hv, flat_int1]; exact cellsOk_int l) rfl (by simp at hs ⊢; omega) (by simp at hs ⊢; omega) ?_
  intro v' h2 B2 k1 k2 k3 k4 k5
  rw [List.nil_append] at k2
  obtain ⟨p', c', rfl, _⟩ := OwnC.form k2
  exact hk p' c' h2 B2 k1 k2 k3
theorem Acc.start0 {α : Type} {R : Heap → List Value → α → List Nat → Prop} {sz : Nat} {h0 h : Heap} {A : List Nat} {b : Nat} {t : TypeId} (hl : h0.le h) (hb : h0 b = none) (hg : h b = some (.cells #[] t (0, 0))) (hA : b ∉ A) (nd : Nd A) (fr : ∀ b ∈ A, h0 b = none) (inn : ∀ b ∈ A, ∃ o, h b = some o) : Acc R sz h0 h (.slice (some ⟨b, 0, none⟩) 0 0) [] [b] A :=
  ⟨hl, ⟨[], [b], [], own_empty hg, .nil, rfl⟩, fun a => by
    simp only [List.count_append, List.count_cons, List.count_nil]
    by_cases ha : b = a
    · subst ha; simp [List.count_eq_zero.2 hA]
    · simp [ha]; exact nd a, fun x hx => by
    rcases List.mem_append.1 hx with hx | hx
    · rw [List.mem_singleton.1 hx]; exact hb
    · exact fr x hx, inn⟩
theorem l14Copy_c (mc : List Value) (M : Mch) (h : Heap) (hr : MchR h mc M) :
    Rets Tryz.prog 74 [.agg ⟨mc⟩] h fun v h' => h.le h' ∧ ∃ mc' B, v = .agg ⟨mc'⟩ ∧ OwnM h' mc' M B ∧ Nd B ∧ ∀ b ∈ B, h b = none := by
  obtain ⟨vo, vf, vs, rfl, s1, s2, ho, hf, hs⟩ := hr
  obtain ⟨po, co, rfl, _, _⟩ := ho.len
  obtain ⟨pf, cf, rfl, _, _⟩ := hf.len
  have hs0 := hs
  obtain ⟨hs1, _, ps, cs, rfl, _⟩ := hs
  refine rets Tryz.sigOk Tryz.func74 Tryz.F74 Tryz.ok74 rfl ?_
  unfold mcells
  conv => whnf
  refine new' [] rfl (fun b0 h1 hb0 e0 l1 g0 => ?_)
  conv => whnf
  refine lps [1, 2, 3, 4] [1, 2, 3] (fun s : Nat × Heap × Option Addr × Nat × List Nat => s.1 ≤ M.objs.length ∧ Acc OwnO 2 h s.2.1 (.slice s.2.2.1 s.1 s.2.2.2.1) (M.objs.take s.1) s.2.2.2.2 []) (fun s => M.objs.length - s.1)
    (fun s => ([.l 1 0, .l 2 0, .l 3 0, .v (.int .i64 s.1)],
      [some (mcells (.slice po M.objs.length co) (.slice pf M.frames.length cf) (.slice ps (M.said.map int1).length cs) M), some [.slice none 0 0, .slice none 0 0, .slice none 0 0, .int .i64 0, .int .i64 0, .bool false, .int .i64 0],
       some (mcells (.slice s.2.2.1 s.1 s.2.2.2.1) (.slice pf M.frames.length cf) (.slice ps (M.said.map int1).length cs) M)], s.2.1))
    (0, h1, some ⟨b0, 0, none⟩, 0, [b0]) ⟨by omega, Acc.start0 l1 hb0 g0 (by simp) (fun _ => by simp) (by simp) (by simp)⟩ rfl ?_
  rintro ⟨i, h2, p, c, B⟩ ⟨hi, ac⟩
  simp only at hi ac ⊢
  unfold mcells
  conv => whnf
  refine selP (fun g => ?_) (fun g => ?_)
  all_goals conv => whnf
  · have hil : i < M.objs.length := by omega
    have e := (ho.le ac.le (fun _ _ hx => hx.le ac.le)).get hil
    obtain ⟨bb, off, xs, hq, e1, vv, rfl, e2⟩ := e
    have e20 := e2
    obtain ⟨e2l, _, pv, cv, rfl, _⟩ := e2
    have r0 := rdn_get e1 (i := 0) rfl
    have r1 := rdn_get e1 (i := 1) rfl
    repeat' ((first | exact trivial | refine And.intro ?_ ?_ | refine ob (by omega) ?_ | refine ptr' hq ?_ | refine ld r0 ?_ | refine ld r1 ?_ | refine ld (rd_le l3 r0) ?_ | refine ld (rd_le l3 r1) ?_ | refine ld (rd_le l4 r0) ?_ | refine new' [] rfl (fun b1 h3 hb3 ee3 l3 g3 => ?_) | refine ReadC.ldp (e20.le l3) ?_ | refine app_copy l3 g3 hb3 rfl rfl e2l (fun p' c' h4 B4 l4 o4 n4 => ?_)) <;> conv => whnf)
    all_goals
      refine app_acc keptO inO (a := M.objs[i]) (Bi := B4) ac l4 ⟨_, rfl, o4⟩ o4.nd n4 rfl rfl rfl rfl (by simp; omega) (by simp; omega) ?_
      intro p' c' h5 B' ac' hk
      have hti : (M.objs.take i).length = i := by simp; omega
      rw [List.take_append_getElem hil, hti] at ac'
      rw [hti]
      conv => whnf
      refine ar_in (by omega) (by omega) ?_
      conv => whnf
      exact lpn (i + 1, h5, p', c', B') ⟨by omega, ac'⟩ (by simp only; omega) rfl
  · have hie : i = M.objs.length := by omega
    subst hie
    rw [List.take_length] at ac
    have hA : Nd B := by have := ac.nd; simpa using this
    have hBf : ∀ b ∈ B, h b = none := fun b hb => ac.fr b (by simp [hb])
    have hBin := ac.own.in inO
    refine new' [] rfl (fun b5 h6 hb6 ee6 l6 g6 => ?_)
    conv => whnf
    have hb5 : h b5 = none := by
      cases hh : h b5 with
      | none => rfl
      | some o => rw [ac.le b5 o hh] at hb6; cases hb6
    have hb5B : b5 ∉ B := fun hx => by obtain ⟨o, ho⟩ := hBin b5 hx; rw [hb6] at ho; cases ho
    refine lps [1, 2, 3, 5] [1, 2, 3] (fun s : Nat × Heap × Option Addr × Nat × List Nat => s.1 ≤ M.frames.length ∧ Acc OwnF 4 h s.2.1 (.slice s.2.2.1 s.1 s.2.2.2.1) (M.frames.take s.1) s.2.2.2.2 B ∧ OwnL OwnO 2 s.2.1 (.slice p M.objs.length c) M.objs B) (fun s => M.frames.length - s.1)
      (fun s => ([.l 1 0, .l 2 0, .l 3 0, .v (.int .i64 s.1)],
        [some (mcells (.slice po M.objs.length co) (.slice pf M.frames.length cf) (.slice ps (M.said.map int1).length cs) M), some [.slice none 0 0, .slice none 0 0, .slice none 0 0, .int .i64 0, .int .i64 0, .bool false, .int .i64 0],
         some (mcells (.slice p M.objs.length c) (.slice s.2.2.1 s.1 s.2.2.2.1) (.slice ps (M.said.map int1).length cs) M)], s.2.1))
      (0, h6, some ⟨b5, 0, none⟩, 0, [b5]) ⟨by omega, Acc.start0 (Heap.le_trans ac.le l6) hb5 g6 hb5B hA hBf (fun b hb => by obtain ⟨o, ho⟩ := hBin b hb; exact ⟨o, l6 b o ho⟩), ac.own.keep keptO (Keep.of_le l6 _)⟩ rfl ?_
    rintro ⟨i, h3, p2, c2, B2⟩ ⟨hi, ac2, oo⟩
    simp only at hi ac2 oo ⊢
    unfold mcells
    conv => whnf
    refine selP (fun g => ?_) (fun g => ?_)
    all_goals conv => whnf
    · have hil : i < M.frames.length := by omega
      have e := (hf.le ac2.le (fun _ _ hx => hx.le ac2.le)).get hil
      obtain ⟨bb, off, xs, hq, e1, v1, v2, rfl, e2, e3⟩ := e
      have e20 := e2
      have e30 := e3
      obtain ⟨e2l, _, pv, cv, rfl, _⟩ := e2
      obtain ⟨e3l, _, pw, cw, rfl, _⟩ := e3
      refine ob (by omega) ?_
      conv => whnf
      refine ptr' hq ?_
      conv => whnf
      refine ldn e1 ?_
      conv => whnf
      refine new' [] rfl (fun b7 h7 hb7 ee7 l7 g7 => ?_)
      conv => whnf
      refine ReadC.ldp (e20.le l7) ?_
      conv => whnf
      refine app_copy l7 g7 hb7 rfl rfl e2l (fun p8 c8 h8 B8 l8 o8 n8 => ?_)
      conv => whnf
      refine new' [] rfl (fun b9 h9 hb9 ee9 l9 g9 => ?_)
      conv => whnf
      refine ReadC.ldp (e30.le (Heap.le_trans l8 l9)) ?_
      conv => whnf
      refine app_copy l9 g9 hb9 rfl rfl e3l (fun p10 c10 h10 B10 l10 o10 n10 => ?_)
      conv => whnf
      have nF : Nd (B8 ++ B10) := by
        intro a
        have e1 := o8.nd a
        have e2 := o10.nd a
        simp only [List.count_append]
        by_cases hm : a ∈ B10
        · have : B8.count a = 0 := by
            refine List.count_eq_zero.2 fun hx => ?_
            obtain ⟨o, ho⟩ := o8.in a hx
            rw [n10 a hm] at ho; cases ho
          omega
        · have := List.count_eq_zero.2 hm
          omega
      have fF : ∀ b ∈ B8 ++ B10, h3 b = none := by
        intro b hb
        rcases List.mem_append.1 hb with hb | hb
        · exact n8 b hb
        · cases hh : h3 b with
          | none => rfl
          | some o => have := n10 b hb; rw [l8 b o hh] at this; cases this
      refine app_acc keptF inF (a := M.frames[i]) (Bi := B8 ++ B10) ac2 (Heap.le_trans l8 l10) ⟨_, _, B8, B10, rfl, o8.keep (Keep.of_le l10 _), o10, rfl⟩ nF fF rfl rfl rfl rfl (by simp; omega) (by simp; omega) ?_
      intro p' c' h5 B' ac' hk
      have hti : (M.frames.take i).length = i := by simp; omega
      rw [List.take_append_getElem hil, hti] at ac'
      rw [hti]
      conv => whnf
      refine ar_in (by omega) (by omega) ?_
      conv => whnf
      exact lpn (i + 1, h5, p', c', B') ⟨by omega, ac', oo.keep keptO hk⟩ (by simp only; omega) rfl
    · have hie : i = M.frames.length := by omega
      subst hie
      rw [List.take_length] at ac2
      refine new' [] rfl (fun b9 h9 hb9 ee9 l9 g9 => ?_)
      conv => whnf
      refine ReadC.ldp (hs0.le (Heap.le_trans ac2.le l9)) ?_
      conv => whnf
      refine app_copyI l9 g9 hb9 rfl rfl hs1 (fun p10 c10 h10 B10 l10 o10 n10 => ?_)
      conv => whnf
      have hin2 := ac2.own.in inF
      refine ⟨Heap.le_trans ac2.le l10, _, B ++ B2 ++ B10, rfl, ⟨_, _, _, B, B2, B10, rfl, oo.keep keptO (Keep.of_le l10 _), ac2.own.keep keptF (Keep.of_le l10 _), o10, rfl⟩, ?_, fun b hb => ?_⟩
      · intro a
        have e1 := ac2.nd a
        have e2 := o10.nd a
        simp only [List.count_append] at e1 ⊢
        by_cases hm : a ∈ B10
        · have : B2.count a = 0 := List.count_eq_zero.2 fun hx => by obtain ⟨o, ho⟩ := hin2 a hx; rw [n10 a hm] at ho; cases ho
          have : B.count a = 0 := List.count_eq_zero.2 fun hx => by obtain ⟨o, ho⟩ := ac2.inn a hx; rw [n10 a hm] at ho; cases ho
          omega
        · have := List.count_eq_zero.2 hm
          omega
      · simp only [List.mem_append] at hb
        rcases hb with (hb | hb) | hb
        · exact hBf b hb
        · exact ac2.fr b (by simp [hb])
        · cases hh : h b with
          | none => rfl
          | some o => have := n10 b hb; rw [ac2.le b o hh] at this; cases this
end Go.Proofs
namespace Go.Proofs
open Go.Vc
set_option maxRecDepth 100000
set_option maxHeartbeats 4000000
def Mon (x y : Sx) : Prop := x.st = true → y.st = true
theorem Mon.trans {x y z : Sx} (a : Mon x y) (b : Mon y z) : Mon x z := fun h => b (a h)
theorem mon_pop (x : Sx) : Mon x (popX x).2 := fun h => by unfold popX; split; rfl; exact h
theorem mon_word (x : Sx) : Mon x (wordX x).2 := fun h => by unfold wordX; split; rfl; exact mon_pop x h
theorem mon_ref (x : Sx) : Mon x (refX x).2 := fun h => by unfold refX; split; exact mon_pop x h; rfl
theorem mon_push (x : Sx) (v : Vl) : Mon x (pushX x v) := fun h => by unfold pushX; split; rfl; exact h
theorem mon_wrong (x : Sx) (k : Int) : Mon x (wrongX x k) := fun h => by unfold wrongX; split; exact h; exact h
theorem mon_thing (u : Unt) (x : Sx) (n k : Int) : Mon x (thingX u x n k) := fun h => by
  unfold thingX; rw [if_pos (.inl h)]; exact h
theorem mon_made (x : Sx) (o : Ob) : Mon x (madeX x o) := fun h => by unfold madeX; rw [if_pos (.inl h)]; exact h
theorem pop_st {x : Sx} (h : x.f.stack = []) : (popX x).2.st = true := by rw [popX_nil h]
theorem word_nil {x : Sx} (h : x.f.stack = []) : (wordX x).2.st = true := by
  unfold wordX; split; rfl; exact pop_st h
theorem word_bad {x : Sx} {l : List Vl} {v : Vl} (h : x.f.stack = l ++ [v]) (hv : v.ref = true) : (wordX x).2.st = true := by
  unfold wordX; rw [popX_app h]; simp [hv]
theorem word_ok {x : Sx} {l : List Vl} {v : Vl} (h : x.f.stack = l ++ [v]) (hv : v.ref = false) : wordX x = (v.n, { x with f := { x.f with stack := l } }) := by
  unfold wordX; rw [popX_app h]; simp [hv]
theorem ref_nil {x : Sx} (h : x.f.stack = []) : (refX x).2.st = true := by
  unfold refX; split; exact pop_st h; rfl
theorem ref_bad {x : Sx} {l : List Vl} {v : Vl} (h : x.f.stack = l ++ [v]) (hv : v.ref = false) : (refX x).2.st = true := by
  unfold refX; rw [popX_app h]; simp [hv]
theorem ref_ok {x : Sx} {l : List Vl} {v : Vl} (h : x.f.stack = l ++ [v]) (hv : v.ref = true) : refX x = (v.n, { x with f := { x.f with stack := l } }) := by
  unfold refX; rw [popX_app h]; simp [hv]
def Rl (r : Except Int Mch) (s : Mch × Bool × Int) : Prop := match r with
  | .ok M' => s = (M', false, 0)
  | .error k => if k = 0 then s.2.1 = true else s.2.1 = false ∧ s.2.2 = k
theorem Rl.stuck {s : Mch × Bool × Int} (h : s.2.1 = true) : Rl (.error 0) s := by simp [Rl, h]
theorem Rl.flt {s : Mch × Bool × Int} {k : Int} (hk : k ≠ 0) (h1 : s.2.1 = false) (h2 : s.2.2 = k) : Rl (.error k) s := by simp [Rl, hk, h1, h2]
theorem Rl.ok {s : Mch × Bool × Int} {M' : Mch} (h : s = (M', false, 0)) : Rl (.ok M') s := h
theorem take0 {u : Unt} {x : Ins} {stk : List Vl} (h : seesL u x = some []) : takeS u x stk = some ([], stk) := by simp [takeS, h, okS]
theorem take1n {u : Unt} {x : Ins} {w : Int} (h : seesL u x = some [w]) : takeS u x [] = none := by simp [takeS, h]
theorem take1 {u : Unt} {x : Ins} {w : Int} {l : List Vl} {v : Vl} (h : seesL u x = some [w]) : takeS u x (l ++ [v]) = if okS [w] [v] = true then some ([v], l) else none := by simp [takeS, h]
theorem take2n {u : Unt} {x : Ins} {w1 w2 : Int} {stk : List Vl} (h : seesL u x = some [w1, w2]) (hl : stk.length < 2) : takeS u x stk = none := by
  simp [takeS, h]; omega
theorem take2 {u : Unt} {x : Ins} {w1 w2 : Int} {l : List Vl} {a b : Vl} (h : seesL u x = some [w1, w2]) : takeS u x (l ++ [a, b]) = if okS [w1, w2] [a, b] = true then some ([a, b], l) else none := by
  simp [takeS, h]; intro hx; omega
theorem take3n {u : Unt} {x : Ins} {w1 w2 w3 : Int} {stk : List Vl} (h : seesL u x = some [w1, w2, w3]) (hl : stk.length < 3) : takeS u x stk = none := by
  simp [takeS, h]; omega
theorem take3 {u : Unt} {x : Ins} {w1 w2 w3 : Int} {l : List Vl} {a b c : Vl} (h : seesL u x = some [w1, w2, w3]) : takeS u x (l ++ [a, b, c]) = if okS [w1, w2, w3] [a, b, c] = true then some ([a, b, c], l) else none := by
  simp [takeS, h]; intro hx; omega
theorem snoc1 (s : List Vl) : s = [] ∨ ∃ l v, s = l ++ [v] := by
  rcases List.eq_nil_or_concat s with h | ⟨l, v, h⟩
  · exact .inl h
  · exact .inr ⟨l, v, by simpa using h⟩
def sxOf (M : Mch) (fs : List Frm) (f : Frm) : Sx := ⟨M.objs, fs, f, M.said, M.steps, M.fin, M.out, false, 0⟩
def midM (M : Mch) (fs : List Frm) (f : Frm) (r : Mid) (a : Int) : Except Int Mch := match r with
  | .error e => .error e
  | .ok (objs, g, said, goes) => .ok { M with objs := objs, said := said, frames := fs ++ [{ g with pc := if goes then a else f.pc + 1 }] }
def plainRes (u : Unt) (x : Sx) (i : Ins) : Mch × Bool × Int := (bumpX (lookX u (plainX x i) i)).res
theorem rl_push {M : Mch} {fs : List Frm} {f : Frm} {x : Sx} {v : Vl} {a : Int} {stk : List Vl} (hx : x = sxOf M fs { f with stack := stk }) : Rl (midM M fs f (pushM M.objs { f with stack := stk } M.said v) a) (bumpX (pushX x v)).res := by
  subst hx
  by_cases h : stk.length < 4
  · rw [pushM_ok h, pushX_ok h]; exact Rl.ok rfl
  · rw [pushM_bad (by show 4 ≤ stk.length; omega), pushX_bad (by show 4 ≤ stk.length; omega)]; exact Rl.stuck rfl
theorem stuck_of {M : Mch} {fs : List Frm} {f : Frm} {x : Sx} (h : x.st = true) : Rl (.error 0) (bumpX x).res := Rl.stuck h
theorem plain_ne {x : Sx} {k a b : Int} (h : 12 ≤ k ∧ k ≤ 19) : plainX x ⟨k, a, b⟩ = x := by
  unfold plainX; simp only; repeat rw [if_neg (by omega)]
theorem look_ne {u : Unt} {x : Sx} {k a b : Int} (h : k < 12 ∨ 19 < k) : lookX u x ⟨k, a, b⟩ = x := by
  unfold lookX; simp only; repeat rw [if_neg (by omega)]
theorem rl_plain (u : Unt) (M : Mch) (fs : List Frm) (f : Frm) (k a b : Int) (hk : k = 1 ∨ k = 2 ∨ k = 3 ∨ k = 4 ∨ k = 5 ∨ k = 6 ∨ k = 7 ∨ k = 24) :
    Rl (match takeS u ⟨k, a, b⟩ f.stack with
      | none => .error 0
      | some (took, rest) => midM M fs f (midS u ⟨k, a, b⟩ took M.objs { f with stack := rest } M.said) a) (plainRes u (sxOf M fs f) ⟨k, a, b⟩) := by
  have hlk : ∀ x : Sx, lookX u x ⟨k, a, b⟩ = x := fun x => look_ne (by omega)
  unfold plainRes
  rw [hlk]
  obtain ⟨meth, pc, locals, stk⟩ := f
  simp only
  rcases hk with rfl | rfl | rfl | rfl | rfl | rfl | rfl | rfl
  · rw [take0 rfl]; exact rl_push (f := ⟨meth, pc, locals, stk⟩) rfl
  · rw [take0 rfl]; exact rl_push (f := ⟨meth, pc, locals, stk⟩) rfl
  · rw [take0 rfl]; exact rl_push (f := ⟨meth, pc, locals, stk⟩) rfl
  · rcases snoc1 stk with rfl | ⟨l, v, rfl⟩
    · rw [take1n rfl]; exact Rl.stuck (pop_st (x := sxOf M fs ⟨meth, pc, locals, []⟩) rfl)
    · rw [take1 rfl]
      have hp := popX_app (x := sxOf M fs ⟨meth, pc, locals, l ++ [v]⟩) rfl
      have e : plainX (sxOf M fs ⟨meth, pc, locals, l ++ [v]⟩) ⟨4, a, b⟩ = sxOf M fs ⟨meth, pc, locals.set a.toNat v, l⟩ := by
        show ({ (popX _).2 with f := _ } : Sx) = _
        rw [hp]; rfl
      rw [e]
      exact Rl.ok rfl
  · rcases snoc1 stk with rfl | ⟨l, v, rfl⟩
    · rw [take1n rfl]; exact Rl.stuck (pop_st (x := sxOf M fs ⟨meth, pc, locals, []⟩) rfl)
    · rw [take1 rfl]
      have hp := popX_app (x := sxOf M fs ⟨meth, pc, locals, l ++ [v]⟩) rfl
      have e : plainX (sxOf M fs ⟨meth, pc, locals, l ++ [v]⟩) ⟨5, a, b⟩ = sxOf M fs ⟨meth, pc, locals, l⟩ := by
        show (popX _).2 = _
        rw [hp]; rfl
      rw [e]
      exact Rl.ok rfl
  · rcases snoc1 stk with rfl | ⟨l, v, rfl⟩
    · rw [take1n rfl]; exact Rl.stuck (mon_push _ (popX (sxOf M fs ⟨meth, pc, locals, []⟩)).1 (mon_push _ (popX (sxOf M fs ⟨meth, pc, locals, []⟩)).1 (pop_st (x := sxOf M fs ⟨meth, pc, locals, []⟩) rfl)))
    · rw [take1 rfl]
      have hp := popX_app (x := sxOf M fs ⟨meth, pc, locals, l ++ [v]⟩) rfl
      have e : plainX (sxOf M fs ⟨meth, pc, locals, l ++ [v]⟩) ⟨6, a, b⟩ = pushX (pushX (sxOf M fs ⟨meth, pc, locals, l⟩) v) v := by
        show pushX (pushX (popX _).2 (popX _).1) (popX _).1 = _
        rw [hp]; rfl
      rw [e]
      show Rl (midM M fs _ (match pushS M.objs ⟨meth, pc, locals, l⟩ v with
        | .ok (_, g) => pushM M.objs g M.said v
        | .error e => .error e) a) _
      by_cases h : l.length < 4
      · rw [pushX_ok (x := sxOf M fs ⟨meth, pc, locals, l⟩) h]
        have hps : pushS M.objs ⟨meth, pc, locals, l⟩ v = .ok (M.objs, ⟨meth, pc, locals, l ++ [v]⟩) := if_pos h
        rw [hps]
        exact rl_push (f := ⟨meth, pc, locals, l ++ [v]⟩) rfl
      · have hps : pushS M.objs ⟨meth, pc, locals, l⟩ v = .error 0 := if_neg h
        rw [hps]
        refine Rl.stuck (mon_push _ _ ?_)
        rw [pushX_bad (by show 4 ≤ l.length; omega)]
  · have e : plainX (sxOf M fs ⟨meth, pc, locals, stk⟩) ⟨7, a, b⟩ = opX (sxOf M fs ⟨meth, pc, locals, stk⟩) a := rfl
    rw [e]
    have bad : ∀ x : Sx, (wordX (wordX x).2).2.st = true → (opX x a).st = true := fun x h => by
      unfold opX; simp only; split
      · exact mon_push _ _ h
      · exact mon_wrong _ _ h
    rcases snoc1 stk with rfl | ⟨l1, v1, rfl⟩
    · rw [take2n rfl (by simp)]; exact Rl.stuck (bad _ (mon_word _ (word_nil (x := sxOf M fs ⟨meth, pc, locals, []⟩) rfl)))
    · rcases snoc1 l1 with rfl | ⟨l, v0, rfl⟩
      · rw [take2n rfl (by simp)]
        refine Rl.stuck (bad _ ?_)
        cases hv : v1.ref with
        | true => exact mon_word _ (word_bad (x := sxOf M fs ⟨meth, pc, locals, [] ++ [v1]⟩) rfl hv)
        | false => rw [word_ok (x := sxOf M fs ⟨meth, pc, locals, [] ++ [v1]⟩) rfl hv]; exact word_nil rfl
      · rw [List.append_assoc]
        have hls : l ++ ([v0] ++ [v1]) = l ++ [v0, v1] := rfl
        rw [hls, take2 rfl]
        have hst : (sxOf M fs ⟨meth, pc, locals, l ++ [v0, v1]⟩).f.stack = (l ++ [v0]) ++ [v1] := by simp [sxOf]
        cases hv : v1.ref with
        | true =>
          rw [if_neg (by simp [okS, hv])]
          exact Rl.stuck (bad _ (mon_word _ (word_bad hst hv)))
        | false =>
          cases hw : v0.ref with
          | true =>
            rw [if_neg (by simp [okS, hw])]
            refine Rl.stuck (bad _ ?_)
            rw [word_ok hst hv]
            exact word_bad (l := l) (v := v0) rfl hw
          | false =>
            rw [if_pos (by simp [okS, hv, hw])]
            have e1 := word_ok hst hv
            have e2 : wordX (wordX (sxOf M fs ⟨meth, pc, locals, l ++ [v0, v1]⟩)).2 = (v0.n, sxOf M fs ⟨meth, pc, locals, l⟩) := by
              rw [e1]; exact word_ok (l := l) (v := v0) rfl hw
            have e3 : opX (sxOf M fs ⟨meth, pc, locals, l ++ [v0, v1]⟩) a = if (intDo a v0.n v1.n).2 = true then pushX (sxOf M fs ⟨meth, pc, locals, l⟩) ⟨false, (intDo a v0.n v1.n).1⟩ else wrongX (sxOf M fs ⟨meth, pc, locals, l⟩) 1 := by
              unfold opX; simp only [e2]; rw [e1]
            rw [e3]
            show Rl (midM M fs _ (if (intDo a v0.n v1.n).2 then pushM M.objs ⟨meth, pc, locals, l⟩ M.said ⟨false, (intDo a v0.n v1.n).1⟩ else .error 1) a) _
            by_cases hd : (intDo a v0.n v1.n).2 = true
            · rw [if_pos hd, if_pos hd]
              exact rl_push (f := ⟨meth, pc, locals, l ++ [v0, v1]⟩) rfl
            · rw [if_neg hd, if_neg hd]
              exact Rl.flt (by decide) rfl rfl
  · have e : plainX (sxOf M fs ⟨meth, pc, locals, stk⟩) ⟨24, a, b⟩ = if (wordX (sxOf M fs ⟨meth, pc, locals, stk⟩)).2.st = false then { (wordX (sxOf M fs ⟨meth, pc, locals, stk⟩)).2 with said := (wordX (sxOf M fs ⟨meth, pc, locals, stk⟩)).2.said ++ [(wordX (sxOf M fs ⟨meth, pc, locals, stk⟩)).1] } else (wordX (sxOf M fs ⟨meth, pc, locals, stk⟩)).2 := rfl
    rw [e]
    rcases snoc1 stk with rfl | ⟨l, v, rfl⟩
    · have h := word_nil (x := sxOf M fs ⟨meth, pc, locals, []⟩) rfl
      rw [take1n rfl, if_neg (by rw [h]; simp)]
      exact Rl.stuck h
    · rw [take1 rfl]
      cases hv : v.ref with
      | true =>
        have h := word_bad (x := sxOf M fs ⟨meth, pc, locals, l ++ [v]⟩) rfl hv
        rw [if_neg (by simp [okS, hv]), if_neg (by rw [h]; simp)]
        exact Rl.stuck h
      | false =>
        rw [if_pos (by simp [okS, hv]), word_ok (x := sxOf M fs ⟨meth, pc, locals, l ++ [v]⟩) rfl hv]
        exact Rl.ok rfl
end Go.Proofs
namespace Go.Proofs
open Go.Vc
set_option maxRecDepth 100000
set_option maxHeartbeats 4000000
def midOf (r : Res) (said : List Int) : Mid := match r with
  | .ok (o, g) => .ok (o, g, said, false)
  | .error e => .error e
theorem midS_things {u : Unt} {k a b : Int} {took : List Vl} {objs : List Ob} {f : Frm} {said : List Int} (h : 12 ≤ k ∧ k ≤ 19) : midS u ⟨k, a, b⟩ took objs f said = midOf (thingsS u ⟨k, a, b⟩ took objs f) said := by
  unfold midS
  simp only
  repeat rw [if_neg (by omega)]
  rfl
theorem rl_add {M : Mch} {fs : List Frm} {f : Frm} {x : Sx} {o : Ob} {a : Int} {stk : List Vl} (hx : x = sxOf M fs { f with stack := stk }) :
    Rl (midM M fs f (midOf (pushS (M.objs ++ [o]) { f with stack := stk } ⟨true, M.objs.length + 1⟩) M.said) a) (bumpX (madeX x o)).res := by
  subst hx
  have hm : madeX (sxOf M fs { f with stack := stk }) o = pushX { sxOf M fs { f with stack := stk } with objs := M.objs ++ [o] } ⟨true, M.objs.length + 1⟩ := by
    unfold madeX
    rw [if_neg (by simp [Sx.bad, sxOf])]
    rfl
  rw [hm]
  by_cases h : stk.length < 4
  · rw [pushX_ok h]
    have : pushS (M.objs ++ [o]) { f with stack := stk } ⟨true, M.objs.length + 1⟩ = .ok (M.objs ++ [o], { f with stack := stk ++ [⟨true, M.objs.length + 1⟩] }) := if_pos h
    rw [this]
    exact Rl.ok rfl
  · rw [pushX_bad (by show 4 ≤ stk.length; omega)]
    have : pushS (M.objs ++ [o]) { f with stack := stk } ⟨true, M.objs.length + 1⟩ = .error 0 := if_neg h
    rw [this]
    exact Rl.stuck rfl
theorem made_bad {x : Sx} {o : Ob} (h : x.bad) : madeX x o = x := if_pos h
theorem thing_n0 {u : Unt} {x : Sx} {k : Int} (hb : ¬ x.bad) : thingX u x 0 k = wrongX x 2 := by unfold thingX; rw [if_neg hb, if_pos rfl]
theorem thing_no {u : Unt} {x : Sx} {n k : Int} (hb : ¬ x.bad) (hn : n ≠ 0) (hc : isBad u (objN x.objs n).cls k = true) : thingX u x n k = { x with st := true } := by unfold thingX; rw [if_neg hb, if_neg hn, if_pos hc]
theorem thing_yes {u : Unt} {x : Sx} {n k : Int} (hb : ¬ x.bad) (hn : n ≠ 0) (hc : isBad u (objN x.objs n).cls k = false) : thingX u x n k = x := by unfold thingX; rw [if_neg hb, if_neg hn, if_neg (by rw [hc]; simp)]
def elemT (u : Unt) (x : Sx) (n w k : Int) (set : Bool) (v : Vl) : Sx :=
  if (thingX u x n (-1 - k)).bad then thingX u x n (-1 - k) else if ¬ (0 ≤ w ∧ w < (objN (thingX u x n (-1 - k)).objs n).vals.length) then wrongX (thingX u x n (-1 - k)) 3
  else if set = true then putX (thingX u x n (-1 - k)) n w v else pushX (thingX u x n (-1 - k)) ((objN (thingX u x n (-1 - k)).objs n).vals.getD w.toNat noVl)
theorem elemT_st {u : Unt} {x : Sx} {n w k : Int} {set : Bool} {v : Vl} (h : x.st = true) : (elemT u x n w k set v).st = true := by
  have ht := mon_thing u x n (-1 - k) h
  unfold elemT
  rw [if_pos (.inl ht)]
  exact ht
theorem nbad (M : Mch) (fs : List Frm) (f : Frm) : ¬ (sxOf M fs f).bad := by simp [Sx.bad, sxOf]
theorem rl_elem {u : Unt} {M : Mch} {fs : List Frm} {f : Frm} {x : Sx} {k w a : Int} {v0 v : Vl} {stk : List Vl} {set : Bool} (hx : x = sxOf M fs { f with stack := stk }) (hk : k = 0 ∨ k = 1) (hn : 0 ≤ v0.n) :
    Rl (midM M fs f (midOf (match arrS M.objs v0 k w with
      | .error e => .error e
      | .ok o => if set = true then .ok (putOb M.objs v0.n (putAt o.vals w v), { f with stack := stk }) else pushS M.objs { f with stack := stk } (o.vals.getD w.toNat noVl)) M.said) a) (bumpX (elemT u x v0.n w k set v)).res := by
  subst hx
  have hb := nbad M fs { f with stack := stk }
  unfold elemT
  by_cases h0 : v0.n = 0
  · rw [arrS_nil h0, h0, thing_n0 hb]
    have : (wrongX (sxOf M fs { f with stack := stk }) 2).bad := .inr (by show (0 : Int) < 2; decide)
    rw [if_pos this]
    exact Rl.flt (by decide) rfl rfl
  · have h1 : 0 < v0.n := by omega
    have hbad : isBad u (objN M.objs v0.n).cls (-1 - k) = !decide ((objN M.objs v0.n).cls = arrC k) := by
      unfold isBad arrC
      rcases hk with rfl | rfl <;> simp
    by_cases hc : (objN M.objs v0.n).cls = arrC k
    · rw [thing_yes hb h0 (by show isBad u (objN M.objs v0.n).cls (-1 - k) = false; rw [hbad]; simp [hc]), if_neg hb]
      by_cases hr : 0 ≤ w ∧ w < (objN M.objs v0.n).vals.length
      · have hr' : 0 ≤ w ∧ w < (objN (sxOf M fs { f with stack := stk }).objs v0.n).vals.length := hr
        rw [arrS_ok h1 hc hr, if_neg (fun hx => hx hr')]
        cases set with
        | true => exact Rl.ok rfl
        | false =>
          have e : midOf (pushS M.objs { f with stack := stk } ((objN M.objs v0.n).vals.getD w.toNat noVl)) M.said = pushM M.objs { f with stack := stk } M.said ((objN M.objs v0.n).vals.getD w.toNat noVl) := rfl
          simp only [Bool.false_eq_true, if_false]
          rw [e]
          exact rl_push rfl
      · have hr' : ¬ (0 ≤ w ∧ w < (objN (sxOf M fs { f with stack := stk }).objs v0.n).vals.length) := hr
        rw [arrS_place h1 hc hr, if_pos hr']
        exact Rl.flt (by decide) rfl rfl
    · rw [arrS_bad h1 hc, thing_no hb h0 (by show isBad u (objN M.objs v0.n).cls (-1 - k) = true; rw [hbad]; simp [hc]), if_pos (.inl rfl)]
      exact Rl.stuck rfl
def fieldT (u : Unt) (x : Sx) (n k i : Int) (set : Bool) (v : Vl) : Sx :=
  if (thingX u x n k).bad then thingX u x n k else if set = true then putX (thingX u x n k) n i v else pushX (thingX u x n k) ((objN (thingX u x n k).objs n).vals.getD i.toNat noVl)
theorem fieldT_st {u : Unt} {x : Sx} {n i k : Int} {set : Bool} {v : Vl} (h : x.st = true) : (fieldT u x n k i set v).st = true := by
  have ht := mon_thing u x n k h
  unfold fieldT
  rw [if_pos (.inl ht)]
  exact ht
theorem rl_field {u : Unt} {M : Mch} {fs : List Frm} {f : Frm} {x : Sx} {k i a : Int} {v0 v : Vl} {stk : List Vl} {set : Bool} (hx : x = sxOf M fs { f with stack := stk }) (hk : 0 ≤ k) (hn : 0 ≤ v0.n) :
    Rl (midM M fs f (midOf (match thingS M.objs v0.n (up u.classes (objN M.objs v0.n).cls k) with
      | .error e => .error e
      | .ok o => if set = true then .ok (putOb M.objs v0.n (putAt o.vals i v), { f with stack := stk }) else pushS M.objs { f with stack := stk } (o.vals.getD i.toNat noVl)) M.said) a) (bumpX (fieldT u x v0.n k i set v)).res := by
  subst hx
  have hb := nbad M fs { f with stack := stk }
  unfold fieldT
  by_cases h0 : v0.n = 0
  · rw [thingS_nil h0, h0, thing_n0 hb]
    have : (wrongX (sxOf M fs { f with stack := stk }) 2).bad := .inr (by show (0 : Int) < 2; decide)
    rw [if_pos this]
    exact Rl.flt (by decide) rfl rfl
  · have h1 : 0 < v0.n := by omega
    have hbad : isBad u (objN M.objs v0.n).cls k = !up u.classes (objN M.objs v0.n).cls k := by
      unfold isBad
      cases hu : up u.classes (objN M.objs v0.n).cls k with
      | true =>
        have := up_pos hu
        simp [show ¬ k < 0 by omega, this]
      | false => simp [hk]
    cases hu : up u.classes (objN M.objs v0.n).cls k with
    | true =>
      rw [thing_yes hb h0 (by show isBad u (objN M.objs v0.n).cls k = false; rw [hbad, hu]; rfl), if_neg hb, thingS_ok h1 rfl]
      cases set with
      | true => exact Rl.ok rfl
      | false =>
        have e : midOf (pushS M.objs { f with stack := stk } ((objN M.objs v0.n).vals.getD i.toNat noVl)) M.said = pushM M.objs { f with stack := stk } M.said ((objN M.objs v0.n).vals.getD i.toNat noVl) := rfl
        simp only [Bool.false_eq_true, if_false]
        rw [e]
        exact rl_push rfl
    | false =>
      rw [thing_no hb h0 (by show isBad u (objN M.objs v0.n).cls k = true; rw [hbad, hu]; rfl), if_pos (.inl rfl), thingS_bad h1 rfl]
      exact Rl.stuck rfl
theorem rl_things (u : Unt) (M : Mch) (fs : List Frm) (f : Frm) (k a b : Int) (hk : 12 ≤ k ∧ k ≤ 19) (hv : ∀ v ∈ f.stack, VlW M.objs.length v) (ha : k = 13 ∨ k = 15 ∨ k = 16 → a = 0 ∨ a = 1) (hc : k = 12 ∨ k = 17 ∨ k = 18 ∨ k = 19 → 0 ≤ a) :
    Rl (match takeS u ⟨k, a, b⟩ f.stack with
      | none => .error 0
      | some (took, rest) => midM M fs f (midS u ⟨k, a, b⟩ took M.objs { f with stack := rest } M.said) a) (plainRes u (sxOf M fs f) ⟨k, a, b⟩) := by
  simp only [midS_things hk]
  unfold plainRes
  rw [plain_ne hk]
  obtain ⟨meth, pc, locals, stk⟩ := f
  simp only at hv ⊢
  have hk' : k = 12 ∨ k = 13 ∨ k = 14 ∨ k = 15 ∨ k = 16 ∨ k = 17 ∨ k = 18 ∨ k = 19 := by omega
  rcases hk' with rfl | rfl | rfl | rfl | rfl | rfl | rfl | rfl
  · rw [take0 rfl]
    exact rl_add (f := ⟨meth, pc, locals, stk⟩) rfl
  ·
    have hl : ∀ x : Sx, lookX u x ⟨13, a, b⟩ = arrayX x a := fun x => rfl
    rw [hl]
    have bad : ∀ x : Sx, (wordX x).2.st = true → (arrayX x a).st = true := fun x h => by
      unfold arrayX
      refine mon_made _ _ ?_
      split
      · exact h
      · exact mon_wrong _ _ h
    rcases snoc1 stk with rfl | ⟨l, v, rfl⟩
    · rw [take1n rfl]; exact Rl.stuck (bad _ (word_nil (x := sxOf M fs ⟨meth, pc, locals, []⟩) rfl))
    · rw [take1 rfl]
      cases hr : v.ref with
      | true =>
        rw [if_neg (by simp [okS, hr])]
        exact Rl.stuck (bad _ (word_bad (x := sxOf M fs ⟨meth, pc, locals, l ++ [v]⟩) rfl hr))
      | false =>
        rw [if_pos (by simp [okS, hr])]
        have e1 : wordX (sxOf M fs ⟨meth, pc, locals, l ++ [v]⟩) = (v.n, sxOf M fs ⟨meth, pc, locals, l⟩) := word_ok (x := sxOf M fs ⟨meth, pc, locals, l ++ [v]⟩) rfl hr
        have e2 : arrayX (sxOf M fs ⟨meth, pc, locals, l ++ [v]⟩) a = madeX (if 0 ≤ v.n ∧ v.n ≤ 6 then sxOf M fs ⟨meth, pc, locals, l⟩ else wrongX (sxOf M fs ⟨meth, pc, locals, l⟩) 4) (arrX a v.n) := by
          unfold arrayX; rw [e1]
        rw [e2]
        have e3 : thingsS u ⟨13, a, b⟩ [v] M.objs ⟨meth, pc, locals, l⟩ = if 0 ≤ v.n ∧ v.n ≤ 6 then addS (arrC a) (List.replicate v.n.toNat (if a = 0 then 1 else 8)) M.objs ⟨meth, pc, locals, l⟩ else .error 4 := rfl
        show Rl (midM M fs _ (midOf (thingsS u ⟨13, a, b⟩ [v] M.objs ⟨meth, pc, locals, l⟩) M.said) a) _
        rw [e3]
        by_cases h6 : 0 ≤ v.n ∧ v.n ≤ 6
        · rw [if_pos h6, if_pos h6]
          have e4 : (⟨arrC a, (List.replicate v.n.toNat (if a = 0 then 1 else 8)).map nothing⟩ : Ob) = arrX a v.n := by
            unfold arrX arrC
            have hm : min v.n 6 = v.n := by omega
            rw [hm]
            rcases ha (by simp) with rfl | rfl
            · simp [nothing]
            · simp [nothing]
          unfold addS
          rw [e4]
          exact rl_add (f := ⟨meth, pc, locals, l ++ [v]⟩) rfl
        · rw [if_neg h6, if_neg h6, made_bad (.inr (by show (0 : Int) < 4; decide))]
          exact Rl.flt (by decide) rfl rfl
  ·
    have hl : ∀ x : Sx, lookX u x ⟨14, a, b⟩ = sizeX x := fun x => rfl
    rw [hl]
    have bad : ∀ x : Sx, (refX x).2.st = true → (sizeX x).st = true := fun x h => by
      unfold sizeX
      simp only
      split
      · rfl
      · split
        · exact mon_wrong _ _ h
        · exact mon_push _ _ h
    rcases snoc1 stk with rfl | ⟨l, v, rfl⟩
    · rw [take1n rfl]; exact Rl.stuck (bad _ (ref_nil (x := sxOf M fs ⟨meth, pc, locals, []⟩) rfl))
    · rw [take1 rfl]
      have hvw := hv v (by simp)
      cases hr : v.ref with
      | false =>
        rw [if_neg (by simp [okS, hr])]
        exact Rl.stuck (bad _ (ref_bad (x := sxOf M fs ⟨meth, pc, locals, l ++ [v]⟩) rfl hr))
      | true =>
        rw [if_pos (by simp [okS, hr])]
        have hn := hvw.1 hr
        have e1 : refX (sxOf M fs ⟨meth, pc, locals, l ++ [v]⟩) = (v.n, sxOf M fs ⟨meth, pc, locals, l⟩) := ref_ok (x := sxOf M fs ⟨meth, pc, locals, l ++ [v]⟩) rfl hr
        have e2 : sizeX (sxOf M fs ⟨meth, pc, locals, l ++ [v]⟩) = if 0 < v.n ∧ (sxOf M fs ⟨meth, pc, locals, l⟩).st = false ∧ 0 ≤ (objN M.objs v.n).cls then { sxOf M fs ⟨meth, pc, locals, l⟩ with st := true } else if v.n = 0 then wrongX (sxOf M fs ⟨meth, pc, locals, l⟩) 2 else pushX (sxOf M fs ⟨meth, pc, locals, l⟩) ⟨false, (objN M.objs v.n).vals.length⟩ := by
          unfold sizeX; simp only [e1]; rfl
        rw [e2]
        show Rl (midM M fs _ (midOf (match thingS M.objs v.n (decide ((objN M.objs v.n).cls < 0)) with
          | .error e => .error e
          | .ok o => pushS M.objs ⟨meth, pc, locals, l⟩ ⟨false, o.vals.length⟩) M.said) a) _
        by_cases h0 : v.n = 0
        · rw [thingS_nil h0, if_neg (by omega), if_pos h0]
          exact Rl.flt (by decide) rfl rfl
        · have h1 : 0 < v.n := by omega
          by_cases hcl : (objN M.objs v.n).cls < 0
          · rw [thingS_ok h1 (by simp [hcl]), if_neg (by omega), if_neg h0]
            exact rl_push (f := ⟨meth, pc, locals, l ++ [v]⟩) rfl
          · rw [thingS_bad h1 (by simp [hcl]), if_pos ⟨h1, rfl, by omega⟩]
            exact Rl.stuck rfl
  ·
    have hl : ∀ x : Sx, lookX u x ⟨15, a, b⟩ = elemT u (refX (wordX x).2).2 (refX (wordX x).2).1 (wordX x).1 a false noVl := fun x => rfl
    rw [hl]
    rcases snoc1 stk with rfl | ⟨l1, v1, rfl⟩
    · rw [take2n rfl (by simp)]
      exact Rl.stuck (elemT_st (mon_ref _ (word_nil (x := sxOf M fs ⟨meth, pc, locals, []⟩) rfl)))
    · rcases snoc1 l1 with rfl | ⟨l, v0, rfl⟩
      · rw [take2n rfl (by simp)]
        refine Rl.stuck (elemT_st ?_)
        cases hr : v1.ref with
        | true => exact mon_ref _ (word_bad (x := sxOf M fs ⟨meth, pc, locals, [] ++ [v1]⟩) rfl hr)
        | false => rw [word_ok (x := sxOf M fs ⟨meth, pc, locals, [] ++ [v1]⟩) rfl hr]; exact ref_nil rfl
      · rw [List.append_assoc]
        have hls : l ++ ([v0] ++ [v1]) = l ++ [v0, v1] := rfl
        rw [hls, take2 rfl]
        have hst : (sxOf M fs ⟨meth, pc, locals, l ++ [v0, v1]⟩).f.stack = (l ++ [v0]) ++ [v1] := by simp [sxOf]
        have hvw := hv v0 (by simp)
        cases hr1 : v1.ref with
        | true =>
          rw [if_neg (by simp [okS, hr1])]
          exact Rl.stuck (elemT_st (mon_ref _ (word_bad hst hr1)))
        | false =>
          have e1 := word_ok hst hr1
          cases hr0 : v0.ref with
          | false =>
            rw [if_neg (by simp [okS, hr0])]
            refine Rl.stuck (elemT_st ?_)
            rw [e1]
            exact ref_bad (l := l) (v := v0) rfl hr0
          | true =>
            rw [if_pos (by simp [okS, hr0, hr1])]
            have e2 : refX (wordX (sxOf M fs ⟨meth, pc, locals, l ++ [v0, v1]⟩)).2 = (v0.n, sxOf M fs ⟨meth, pc, locals, l⟩) := by
              rw [e1]; exact ref_ok (l := l) (v := v0) rfl hr0
            rw [e2, e1]
            exact rl_elem (f := ⟨meth, pc, locals, l ++ [v0, v1]⟩) (set := false) (v := noVl) rfl (ha (by simp)) (hvw.1 hr0).1
  ·
    have hl : ∀ x : Sx, lookX u x ⟨16, a, b⟩ = elemT u (refX (wordX (popX x).2).2).2 (refX (wordX (popX x).2).2).1 (wordX (popX x).2).1 a true (popX x).1 := fun x => rfl
    rw [hl]
    rcases snoc1 stk with rfl | ⟨l2, v2, rfl⟩
    · rw [take3n rfl (by simp)]
      exact Rl.stuck (elemT_st (mon_ref _ (mon_word _ (pop_st (x := sxOf M fs ⟨meth, pc, locals, []⟩) rfl))))
    · have e0 : popX (sxOf M fs ⟨meth, pc, locals, l2 ++ [v2]⟩) = (v2, sxOf M fs ⟨meth, pc, locals, l2⟩) := popX_app (x := sxOf M fs ⟨meth, pc, locals, l2 ++ [v2]⟩) rfl
      rw [e0]
      rcases snoc1 l2 with rfl | ⟨l1, v1, rfl⟩
      · rw [take3n rfl (by simp)]
        exact Rl.stuck (elemT_st (mon_ref _ (word_nil (x := sxOf M fs ⟨meth, pc, locals, []⟩) rfl)))
      · rcases snoc1 l1 with rfl | ⟨l, v0, rfl⟩
        · rw [take3n rfl (by simp)]
          refine Rl.stuck (elemT_st ?_)
          cases hr : v1.ref with
          | true => exact mon_ref _ (word_bad (x := sxOf M fs ⟨meth, pc, locals, [] ++ [v1]⟩) rfl hr)
          | false => rw [word_ok (x := sxOf M fs ⟨meth, pc, locals, [] ++ [v1]⟩) rfl hr]; exact ref_nil rfl
        · have hls : l ++ [v0] ++ [v1] ++ [v2] = l ++ [v0, v1, v2] := by simp
          have hvw := hv v0 (by simp)
          rw [hls, take3 rfl]
          have hst : (sxOf M fs ⟨meth, pc, locals, l ++ [v0] ++ [v1]⟩).f.stack = (l ++ [v0]) ++ [v1] := rfl
          cases hr1 : v1.ref with
          | true =>
            rw [if_neg (by simp [okS, hr1])]
            exact Rl.stuck (elemT_st (mon_ref _ (word_bad hst hr1)))
          | false =>
            have e1 := word_ok hst hr1
            cases hr0 : v0.ref with
            | false =>
              rw [if_neg (by simp [okS, hr0])]
              refine Rl.stuck (elemT_st ?_)
              rw [e1]
              exact ref_bad (l := l) (v := v0) rfl hr0
            | true =>
              rw [if_pos (by simp [okS, hr0, hr1])]
              have e2 : refX (wordX (sxOf M fs ⟨meth, pc, locals, l ++ [v0] ++ [v1]⟩)).2 = (v0.n, sxOf M fs ⟨meth, pc, locals, l⟩) := by
                rw [e1]; exact ref_ok (l := l) (v := v0) rfl hr0
              rw [e2, e1]
              exact rl_elem (f := ⟨meth, pc, locals, l ++ [v0, v1, v2]⟩) (set := true) (v := v2) rfl (ha (by simp)) (hvw.1 hr0).1
  ·
    have hl : ∀ x : Sx, lookX u x ⟨17, a, b⟩ = fieldT u (refX x).2 (refX x).1 a b false noVl := fun x => rfl
    rw [hl]
    rcases snoc1 stk with rfl | ⟨l, v, rfl⟩
    · rw [take1n rfl]; exact Rl.stuck (fieldT_st (ref_nil (x := sxOf M fs ⟨meth, pc, locals, []⟩) rfl))
    · rw [take1 rfl]
      have hvw := hv v (by simp)
      cases hr : v.ref with
      | false =>
        rw [if_neg (by simp [okS, hr])]
        exact Rl.stuck (fieldT_st (ref_bad (x := sxOf M fs ⟨meth, pc, locals, l ++ [v]⟩) rfl hr))
      | true =>
        rw [if_pos (by simp [okS, hr]), ref_ok (x := sxOf M fs ⟨meth, pc, locals, l ++ [v]⟩) rfl hr]
        exact rl_field (f := ⟨meth, pc, locals, l ++ [v]⟩) (set := false) (v := noVl) rfl (hc (by simp)) (hvw.1 hr).1
  ·
    have hl : ∀ x : Sx, lookX u x ⟨18, a, b⟩ = fieldT u (refX (popX x).2).2 (refX (popX x).2).1 a b true (popX x).1 := fun x => rfl
    rw [hl]
    rcases snoc1 stk with rfl | ⟨l1, v1, rfl⟩
    · rw [take2n rfl (by simp)]
      exact Rl.stuck (fieldT_st (mon_ref _ (pop_st (x := sxOf M fs ⟨meth, pc, locals, []⟩) rfl)))
    · have e0 : popX (sxOf M fs ⟨meth, pc, locals, l1 ++ [v1]⟩) = (v1, sxOf M fs ⟨meth, pc, locals, l1⟩) := popX_app (x := sxOf M fs ⟨meth, pc, locals, l1 ++ [v1]⟩) rfl
      rw [e0]
      rcases snoc1 l1 with rfl | ⟨l, v0, rfl⟩
      · rw [take2n rfl (by simp)]
        exact Rl.stuck (fieldT_st (ref_nil (x := sxOf M fs ⟨meth, pc, locals, []⟩) rfl))
      · have hls : l ++ [v0] ++ [v1] = l ++ [v0, v1] := by simp
        have hvw := hv v0 (by simp)
        rw [hls, take2 rfl]
        cases hr : v0.ref with
        | false =>
          rw [if_neg (by simp [okS, hr])]
          exact Rl.stuck (fieldT_st (ref_bad (x := sxOf M fs ⟨meth, pc, locals, l ++ [v0]⟩) rfl hr))
        | true =>
          rw [if_pos (by simp [okS, hr]), ref_ok (x := sxOf M fs ⟨meth, pc, locals, l ++ [v0]⟩) rfl hr]
          exact rl_field (f := ⟨meth, pc, locals, l ++ [v0, v1]⟩) (set := true) (v := v1) rfl (hc (by simp)) (hvw.1 hr).1
  ·
    have hl : ∀ x : Sx, lookX u x ⟨19, a, b⟩ = castX u x a := fun x => rfl
    rw [hl]
    have bad : ∀ x : Sx, (refX x).2.st = true → (castX u x a).st = true := fun x h => by
      unfold castX; simp only; rw [if_pos h]; exact h
    rcases snoc1 stk with rfl | ⟨l, v, rfl⟩
    · rw [take1n rfl]; exact Rl.stuck (bad _ (ref_nil (x := sxOf M fs ⟨meth, pc, locals, []⟩) rfl))
    · rw [take1 rfl]
      cases hr : v.ref with
      | false =>
        rw [if_neg (by simp [okS, hr])]
        exact Rl.stuck (bad _ (ref_bad (x := sxOf M fs ⟨meth, pc, locals, l ++ [v]⟩) rfl hr))
      | true =>
        rw [if_pos (by simp [okS, hr])]
        have e1 : refX (sxOf M fs ⟨meth, pc, locals, l ++ [v]⟩) = (v.n, sxOf M fs ⟨meth, pc, locals, l⟩) := ref_ok (x := sxOf M fs ⟨meth, pc, locals, l ++ [v]⟩) rfl hr
        have e2 : castX u (sxOf M fs ⟨meth, pc, locals, l ++ [v]⟩) a = if 0 < v.n ∧ tyIn u.classes (typeOf (objN M.objs v.n).cls) (8 + a) = false then wrongX (sxOf M fs ⟨meth, pc, locals, l⟩) 5 else pushX (sxOf M fs ⟨meth, pc, locals, l⟩) ⟨true, v.n⟩ := by
          unfold castX; simp only [e1]; rfl
        rw [e2]
        have e3 : (⟨true, v.n⟩ : Vl) = v := by cases v; simp only at hr; rw [hr]
        show Rl (midM M fs _ (midOf (if 0 < v.n ∧ tyIn u.classes (typeOf (objN M.objs v.n).cls) (8 + a) = false then .error 5 else pushS M.objs ⟨meth, pc, locals, l⟩ v) M.said) a) _
        by_cases ht : 0 < v.n ∧ tyIn u.classes (typeOf (objN M.objs v.n).cls) (8 + a) = false
        · rw [if_pos ht, if_pos ht]
          exact Rl.flt (by decide) rfl rfl
        · rw [if_neg ht, if_neg ht, e3]
          exact rl_push (f := ⟨meth, pc, locals, l ++ [v]⟩) rfl
end Go.Proofs
namespace Go.Proofs
open Go.Vc
set_option maxRecDepth 100000
set_option maxHeartbeats 4000000
theorem okS_rep : ∀ (n : Nat) (l : List Vl), okS (List.replicate n 0) l = true
  | 0, _ => rfl
  | n + 1, [] => rfl
  | n + 1, v :: l => by simp [List.replicate_succ, okS, okS_rep n l]
def jumpX (x : Sx) (i : Ins) : Mch × Bool × Int := if (leadsX (bumpX x) i).1 = true then ({ (leadsX (bumpX x) i).2 with f := { (leadsX (bumpX x) i).2.f with pc := i.a } } : Sx).res else (leadsX (bumpX x) i).2.res
theorem jump_st {x : Sx} {i : Ins} (h : (leadsX (bumpX x) i).2.st = true) : (jumpX x i).2.1 = true := by
  unfold jumpX; split <;> exact h
theorem rl_jump (u : Unt) (M : Mch) (fs : List Frm) (f : Frm) (k a b : Int) (hk : 8 ≤ k ∧ k ≤ 11) :
    Rl (match takeS u ⟨k, a, b⟩ f.stack with
      | none => .error 0
      | some (took, rest) => midM M fs f (midS u ⟨k, a, b⟩ took M.objs { f with stack := rest } M.said) a) (jumpX (sxOf M fs f) ⟨k, a, b⟩) := by
  obtain ⟨meth, pc, locals, stk⟩ := f
  simp only
  have hbx : bumpX (sxOf M fs ⟨meth, pc, locals, stk⟩) = sxOf M fs ⟨meth, pc + 1, locals, stk⟩ := rfl
  have fin : ∀ (c : Bool) (l : List Vl), leadsX (bumpX (sxOf M fs ⟨meth, pc, locals, stk⟩)) ⟨k, a, b⟩ = (c, sxOf M fs ⟨meth, pc + 1, locals, l⟩) → Rl (midM M fs ⟨meth, pc, locals, stk⟩ (.ok (M.objs, ⟨meth, pc, locals, l⟩, M.said, c)) a) (jumpX (sxOf M fs ⟨meth, pc, locals, stk⟩) ⟨k, a, b⟩) := by
    intro c l h
    unfold jumpX
    rw [h]
    cases c with
    | true => exact Rl.ok rfl
    | false => exact Rl.ok rfl
  have two : ∀ (p : Int → Int → Bool), (∀ x : Sx, leadsX x ⟨k, a, b⟩ = (p (wordX (wordX x).2).1 (wordX x).1, (wordX (wordX x).2).2)) → seesL u ⟨k, a, b⟩ = some [1, 1] → (∀ v0 v1 objs f said, midS u ⟨k, a, b⟩ [v0, v1] objs f said = .ok (objs, f, said, p v0.n v1.n)) →
      Rl (match takeS u ⟨k, a, b⟩ stk with
        | none => .error 0
        | some (took, rest) => midM M fs ⟨meth, pc, locals, stk⟩ (midS u ⟨k, a, b⟩ took M.objs ⟨meth, pc, locals, rest⟩ M.said) a) (jumpX (sxOf M fs ⟨meth, pc, locals, stk⟩) ⟨k, a, b⟩) := by
    intro p hl hs hm
    have bad : (wordX (wordX (sxOf M fs ⟨meth, pc + 1, locals, stk⟩)).2).2.st = true → (jumpX (sxOf M fs ⟨meth, pc, locals, stk⟩) ⟨k, a, b⟩).2.1 = true := fun h => jump_st (by rw [hbx, hl]; exact h)
    rcases snoc1 stk with rfl | ⟨l1, v1, rfl⟩
    · rw [take2n hs (by simp)]
      exact Rl.stuck (bad (mon_word _ (word_nil rfl)))
    · rcases snoc1 l1 with rfl | ⟨l, v0, rfl⟩
      · rw [take2n hs (by simp)]
        refine Rl.stuck (bad ?_)
        cases hr : v1.ref with
        | true => exact mon_word _ (word_bad (l := []) (v := v1) rfl hr)
        | false => rw [word_ok (x := sxOf M fs ⟨meth, pc + 1, locals, [] ++ [v1]⟩) (l := []) (v := v1) rfl hr]; exact word_nil rfl
      · have hls : l ++ [v0] ++ [v1] = l ++ [v0, v1] := by simp
        rw [hls] at bad fin ⊢
        rw [take2 hs]
        have hst : (sxOf M fs ⟨meth, pc + 1, locals, l ++ [v0, v1]⟩).f.stack = (l ++ [v0]) ++ [v1] := by simp [sxOf]
        cases hr1 : v1.ref with
        | true =>
          rw [if_neg (by simp [okS, hr1])]
          exact Rl.stuck (bad (mon_word _ (word_bad hst hr1)))
        | false =>
          have e1 := word_ok hst hr1
          cases hr0 : v0.ref with
          | true =>
            rw [if_neg (by simp [okS, hr0])]
            refine Rl.stuck (bad ?_)
            rw [e1]
            exact word_bad (l := l) (v := v0) rfl hr0
          | false =>
            rw [if_pos (by simp [okS, hr0, hr1])]
            show Rl (midM M fs _ (midS u ⟨k, a, b⟩ [v0, v1] M.objs ⟨meth, pc, locals, l⟩ M.said) a) _
            rw [hm]
            refine fin _ l ?_
            rw [show bumpX (sxOf M fs ⟨meth, pc, locals, l ++ [v0, v1]⟩) = sxOf M fs ⟨meth, pc + 1, locals, l ++ [v0, v1]⟩ from rfl, hl]
            have e2 : wordX (wordX (sxOf M fs ⟨meth, pc + 1, locals, l ++ [v0, v1]⟩)).2 = (v0.n, sxOf M fs ⟨meth, pc + 1, locals, l⟩) := by
              rw [e1]; exact word_ok (l := l) (v := v0) rfl hr0
            rw [e2, e1]
  have hk' : k = 8 ∨ k = 9 ∨ k = 10 ∨ k = 11 := by omega
  rcases hk' with rfl | rfl | rfl | rfl
  · exact two (fun x y => decide (x < y)) (fun _ => rfl) rfl (fun _ _ _ _ _ => rfl)
  · exact two (fun x y => decide (x = y)) (fun _ => rfl) rfl (fun _ _ _ _ _ => rfl)
  · have hl : ∀ x : Sx, leadsX x ⟨10, a, b⟩ = (decide ((refX x).1 = 0), (refX x).2) := fun _ => rfl
    have bad : (refX (sxOf M fs ⟨meth, pc + 1, locals, stk⟩)).2.st = true → (jumpX (sxOf M fs ⟨meth, pc, locals, stk⟩) ⟨10, a, b⟩).2.1 = true := fun h => jump_st (by rw [hbx, hl]; exact h)
    rcases snoc1 stk with rfl | ⟨l, v, rfl⟩
    · rw [take1n rfl]
      exact Rl.stuck (bad (ref_nil rfl))
    · rw [take1 rfl]
      cases hr : v.ref with
      | false =>
        rw [if_neg (by simp [okS, hr])]
        exact Rl.stuck (bad (ref_bad (l := l) (v := v) rfl hr))
      | true =>
        rw [if_pos (by simp [okS, hr])]
        refine fin (decide (v.n = 0)) l ?_
        rw [hbx, hl, ref_ok (x := sxOf M fs ⟨meth, pc + 1, locals, l ++ [v]⟩) (l := l) (v := v) rfl hr]
        rfl
  · rw [take0 rfl]
    exact fin true stk rfl
theorem rl_back (u : Unt) (M : Mch) (fs : List Frm) (f : Frm) (a b : Int) :
    Rl (match takeS u ⟨22, a, b⟩ f.stack with
      | none => .error 0
      | some (took, rest) => callsS u ⟨22, a, b⟩ took fs { M with frames := fs ++ [{ f with stack := rest }] }) (backX (sxOf M fs f)) := by
  obtain ⟨meth, pc, locals, stk⟩ := f
  simp only
  rcases snoc1 stk with rfl | ⟨l, v, rfl⟩
  · rw [take1n rfl]
    unfold backX
    have h := pop_st (x := sxOf M fs ⟨meth, pc, locals, []⟩) rfl
    simp only
    rw [if_pos h]
    exact Rl.stuck h
  · rw [take1 rfl]
    unfold backX
    have e0 : popX (sxOf M fs ⟨meth, pc, locals, l ++ [v]⟩) = (v, sxOf M fs ⟨meth, pc, locals, l⟩) := popX_app (x := sxOf M fs ⟨meth, pc, locals, l ++ [v]⟩) rfl
    rw [e0, if_pos (by simp [okS])]
    simp only
    rw [if_neg (by simp [sxOf])]
    show Rl (backS v fs { M with frames := fs ++ [⟨meth, pc, locals, l⟩] }) (match fs.getLast? with
      | none => _
      | some g => _)
    rcases List.eq_nil_or_concat fs with rfl | ⟨gs, g, rfl⟩
    · exact Rl.ok rfl
    · rw [List.concat_eq_append, backS_app]
      have hl : (gs ++ [g]).getLast? = some g := by simp
      have hd : (gs ++ [g]).dropLast = gs := by simp
      rw [hl]
      simp only
      by_cases h4 : g.stack.length < 4
      · rw [if_pos h4, pushX_ok (x := { sxOf M (gs ++ [g]) ⟨meth, pc, locals, l⟩ with fs := (sxOf M (gs ++ [g]) ⟨meth, pc, locals, l⟩).fs.dropLast, f := g }) h4]
        refine Rl.ok ?_
        simp only [sxOf, Sx.res, Sx.mch, hd]
      · rw [if_neg h4, pushX_bad (x := { sxOf M (gs ++ [g]) ⟨meth, pc, locals, l⟩ with fs := (sxOf M (gs ++ [g]) ⟨meth, pc, locals, l⟩).fs.dropLast, f := g }) (by show 4 ≤ g.stack.length; omega)]
        exact Rl.stuck rfl
theorem rl_throw (u : Unt) (M : Mch) (fs : List Frm) (f : Frm) (a b : Int) (hv : ∀ v ∈ f.stack, VlW M.objs.length v) :
    Rl (match takeS u ⟨23, a, b⟩ f.stack with
      | none => .error 0
      | some (took, rest) => callsS u ⟨23, a, b⟩ took fs { M with frames := fs ++ [{ f with stack := rest }] })
      (if (refX (sxOf M fs f)).1 = 0 then (wrongX (refX (sxOf M fs f)).2 2).res else if (refX (sxOf M fs f)).2.st = false then throwX u (refX (sxOf M fs f)).1 (refX (sxOf M fs f)).2.mch (refX (sxOf M fs f)).2.st (refX (sxOf M fs f)).2.ft else (refX (sxOf M fs f)).2.res) := by
  obtain ⟨meth, pc, locals, stk⟩ := f
  simp only at hv ⊢
  have bad : ∀ x : Sx, (refX x).2.st = true → Rl (.error 0) (if (refX x).1 = 0 then (wrongX (refX x).2 2).res else if (refX x).2.st = false then throwX u (refX x).1 (refX x).2.mch (refX x).2.st (refX x).2.ft else (refX x).2.res) := by
    intro x h
    split
    · exact Rl.stuck (mon_wrong _ _ h)
    · rw [if_neg (by rw [h]; simp)]
      exact Rl.stuck h
  rcases snoc1 stk with rfl | ⟨l, v, rfl⟩
  · rw [take1n rfl]
    exact bad _ (ref_nil rfl)
  · rw [take1 rfl]
    have hvw := hv v (by simp)
    cases hr : v.ref with
    | false =>
      rw [if_neg (by simp [okS, hr])]
      exact bad _ (ref_bad (l := l) (v := v) rfl hr)
    | true =>
      rw [if_pos (by simp [okS, hr])]
      have hn := hvw.1 hr
      have e0 : refX (sxOf M fs ⟨meth, pc, locals, l ++ [v]⟩) = (v.n, sxOf M fs ⟨meth, pc, locals, l⟩) := ref_ok (x := sxOf M fs ⟨meth, pc, locals, l ++ [v]⟩) rfl hr
      rw [e0]
      show Rl (match thingS M.objs v.n (up u.classes (objN M.objs v.n).cls 1) with
        | .error e => .error e
        | .ok _ => .ok (throwS u v.n { M with frames := fs ++ [⟨meth, pc, locals, l⟩] })) _
      simp only
      by_cases h0 : v.n = 0
      · rw [thingS_nil h0, if_pos h0]
        exact Rl.flt (by decide) rfl rfl
      · have h1 : 0 < v.n := by omega
        rw [if_neg h0, if_pos (show (sxOf M fs ⟨meth, pc, locals, l⟩).st = false from rfl)]
        unfold throwX
        cases hu : up u.classes (objN M.objs v.n).cls 1 with
        | true =>
          have := up_pos hu
          rw [thingS_ok h1 rfl, if_neg (by
            show ¬ ((objN M.objs v.n).cls < 0 ∨ up u.classes (objN M.objs v.n).cls 1 = false)
            rw [hu]; simp; omega)]
          exact Rl.ok rfl
        | false =>
          rw [thingS_bad h1 rfl, if_pos (.inr hu)]
          exact Rl.stuck rfl
theorem rl_call (u : Unt) (M : Mch) (fs : List Frm) (f : Frm) (a b : Int) (hfs : fs.length + 1 ≤ 4) :
    Rl (match takeS u ⟨20, a, b⟩ f.stack with
      | none => .error 0
      | some (took, rest) => callsS u ⟨20, a, b⟩ took fs { M with frames := fs ++ [{ f with stack := rest }] }) (callX u (sxOf M fs f) ⟨20, a, b⟩) := by
  have hc : calledN u ⟨20, a, b⟩ = (mth u a).args.length := rfl
  have hs : seesL u ⟨20, a, b⟩ = some (List.replicate (mth u a).args.length 0) := rfl
  unfold takeS
  rw [hs]
  simp only [List.length_replicate]
  by_cases hl : f.stack.length < (mth u a).args.length
  · rw [if_pos hl]
    unfold callX
    rw [if_pos (.inr (by rw [hc]; show (f.stack.length : Int) < _; omega))]
    exact Rl.stuck rfl
  · rw [if_neg hl, if_pos (okS_rep _ _)]
    have hlow : ¬ (calledN u ⟨20, a, b⟩ < 0 ∨ ((sxOf M fs f).f.stack.length : Int) < calledN u ⟨20, a, b⟩) := by
      rw [hc]
      show ¬ (((mth u a).args.length : Int) < 0 ∨ (f.stack.length : Int) < (mth u a).args.length)
      omega
    rw [callX_20 hlow, hc]
    show Rl (callS u a _ _) _
    unfold callS
    by_cases h4 : fs.length + 1 = 4
    · rw [if_pos (by simp; omega), if_pos (show (sxOf M fs f).fs.length + 1 = 4 from h4)]
      exact Rl.flt (by decide) rfl rfl
    · rw [if_neg (by simp; omega), if_neg (show ¬ (sxOf M fs f).fs.length + 1 = 4 from h4)]
      exact Rl.ok rfl
theorem rl_send (u : Unt) (M : Mch) (fs : List Frm) (f : Frm) (a b : Int) (hfs : fs.length + 1 ≤ 4) (ha : 0 ≤ a) (hv : ∀ v ∈ f.stack, VlW M.objs.length v) :
    Rl (match takeS u ⟨21, a, b⟩ f.stack with
      | none => .error 0
      | some (took, rest) => callsS u ⟨21, a, b⟩ took fs { M with frames := fs ++ [{ f with stack := rest }] }) (callX u (sxOf M fs f) ⟨21, a, b⟩) := by
  have hc : calledN u ⟨21, a, b⟩ = if 0 ≤ find u a b then ((mth u (find u a b)).args.length : Int) + 1 else -1 := rfl
  have hs : seesL u ⟨21, a, b⟩ = if find u a b < 0 then none else some (2 :: List.replicate (mth u (find u a b)).args.length 0) := rfl
  unfold takeS
  rw [hs]
  by_cases hf : find u a b < 0
  · rw [if_pos hf]
    rw [if_neg (by omega)] at hc
    unfold callX
    rw [if_pos (.inl (by rw [hc]; decide))]
    exact Rl.stuck rfl
  · rw [if_neg hf]
    rw [if_pos (by omega)] at hc
    simp only [List.length_cons, List.length_replicate]
    generalize hn : (mth u (find u a b)).args.length = n at hc ⊢
    by_cases hl : f.stack.length < n + 1
    · rw [if_pos hl]
      unfold callX
      rw [if_pos (.inr (by rw [hc]; show (f.stack.length : Int) < _; omega))]
      exact Rl.stuck rfl
    · rw [if_neg hl]
      have hlow : ¬ (calledN u ⟨21, a, b⟩ < 0 ∨ ((sxOf M fs f).f.stack.length : Int) < calledN u ⟨21, a, b⟩) := by
        rw [hc]
        show ¬ ((n : Int) + 1 < 0 ∨ (f.stack.length : Int) < (n : Int) + 1)
        omega
      have hm : (sxOf M fs f).f.stack.length - (calledN u ⟨21, a, b⟩).toNat = f.stack.length - (n + 1) := by rw [hc]; rfl
      obtain ⟨v0, r, hg⟩ : ∃ v0 r, f.stack.drop (f.stack.length - (n + 1)) = v0 :: r := by
        cases hd : f.stack.drop (f.stack.length - (n + 1)) with
        | nil => have := congrArg List.length hd; simp at this; omega
        | cons v0 r => exact ⟨v0, r, rfl⟩
      have hgd : ((sxOf M fs f).f.stack.drop ((sxOf M fs f).f.stack.length - (calledN u ⟨21, a, b⟩).toNat)).getD 0 noVl = v0 := by
        rw [hm]
        show (f.stack.drop _).getD 0 noVl = v0
        rw [hg]; rfl
      have hcx := callX_21 hlow hgd
      rw [hm] at hcx
      rw [hcx]
      have hv0 : v0 ∈ f.stack := by
        have : v0 ∈ f.stack.drop (f.stack.length - (n + 1)) := by rw [hg]; simp
        exact List.mem_of_mem_drop this
      have hvw := hv v0 hv0
      have hb := nbad M fs f
      cases hr : v0.ref with
      | false =>
        rw [if_neg (by rw [hg]; simp [okS, hr]), if_pos rfl]
        exact Rl.stuck rfl
      | true =>
        have hn0 := hvw.1 hr
        rw [if_pos (by rw [hg]; simp [okS, hr, okS_rep]), if_neg (by simp)]
        show Rl (match thingS M.objs ((f.stack.drop (f.stack.length - (n + 1))).getD 0 noVl).n (up u.classes (objN M.objs ((f.stack.drop (f.stack.length - (n + 1))).getD 0 noVl).n).cls a) with
          | .error e => .error e
          | .ok o => callS u (find u o.cls b) (f.stack.drop (f.stack.length - (n + 1))) { M with frames := fs ++ [{ f with stack := f.stack.take (f.stack.length - (n + 1)) }] }) _
        have hg2 : (f.stack.drop (f.stack.length - (n + 1))).getD 0 noVl = v0 := by rw [hg]; rfl
        rw [hg2]
        by_cases h0 : v0.n = 0
        · rw [thingS_nil h0, h0, thing_n0 hb, if_pos (.inr (by show (0 : Int) < 2; decide))]
          exact Rl.flt (by decide) rfl rfl
        · have h1 : 0 < v0.n := by omega
          have hbad : isBad u (objN M.objs v0.n).cls a = !up u.classes (objN M.objs v0.n).cls a := by
            unfold isBad
            cases hu : up u.classes (objN M.objs v0.n).cls a with
            | true =>
              have := up_pos hu
              simp [show ¬ a < 0 by omega, this]
            | false => simp [ha]
          cases hu : up u.classes (objN M.objs v0.n).cls a with
          | true =>
            rw [thing_yes hb h0 (by show isBad u (objN M.objs v0.n).cls a = false; rw [hbad, hu]; rfl), if_neg hb, thingS_ok h1 rfl]
            show Rl (callS u _ _ _) _
            unfold callS
            by_cases h4 : fs.length + 1 = 4
            · rw [if_pos (by simp; omega), if_pos (show (sxOf M fs f).fs.length + 1 = 4 from h4)]
              exact Rl.flt (by decide) rfl rfl
            · rw [if_neg (by simp; omega), if_neg (show ¬ (sxOf M fs f).fs.length + 1 = 4 from h4)]
              exact Rl.ok rfl
          | false =>
            rw [thing_no hb h0 (by show isBad u (objN M.objs v0.n).cls a = true; rw [hbad, hu]; rfl), if_pos (.inl rfl), thingS_bad h1 rfl]
            exact Rl.stuck rfl
def l14X (u : Unt) (M : Mch) (fs : List Frm) (f : Frm) : Mch × Bool × Int :=
  if f.pc = (mth u f.meth).code.length then (M, true, 0) else stepX u (sxOf M fs f) ((mth u f.meth).code.getD f.pc.toNat noIns)
theorem rl_step (u : Unt) (M : Mch) (fs : List Frm) (f : Frm) (hu : UnitT u) (h : MOk u M) (hf : M.frames = fs ++ [f]) : Rl (doS u fs f M) (l14X u M fs f) := by
  have hF := h.frm f (by rw [hf]; simp)
  have hfs : fs.length + 1 ≤ 4 := by have := h.nf; rw [hf] at this; simpa using this
  unfold l14X
  by_cases hpc : f.pc = (mth u f.meth).code.length
  · rw [if_pos hpc]
    unfold doS
    simp only
    rw [if_pos (by omega)]
    exact Rl.stuck rfl
  · rw [if_neg hpc]
    have hpl := hF.2.1
    have hil : f.pc.toNat < (mth u f.meth).code.length := by omega
    have hxd : (mth u f.meth).code.getD f.pc.toNat noIns = (mth u f.meth).code[f.pc.toNat] := by simp [hil]
    have hxT := (hu.mth hF.1).2.1.2.2.2.1 _ (List.getElem_mem hil)
    rw [← hxd] at hxT
    have hd : doS u fs f M = match takeS u ((mth u f.meth).code.getD f.pc.toNat noIns) f.stack with
      | none => .error 0
      | some (took, rest) => if 20 ≤ ((mth u f.meth).code.getD f.pc.toNat noIns).kind ∧ ((mth u f.meth).code.getD f.pc.toNat noIns).kind ≤ 23 then callsS u ((mth u f.meth).code.getD f.pc.toNat noIns) took fs { M with frames := fs ++ [{ f with stack := rest }] }
        else midM M fs f (midS u ((mth u f.meth).code.getD f.pc.toNat noIns) took M.objs { f with stack := rest } M.said) ((mth u f.meth).code.getD f.pc.toNat noIns).a := by
      unfold doS
      simp only
      rw [if_neg (by omega)]
      rfl
    rw [hd]
    generalize (mth u f.meth).code.getD f.pc.toNat noIns = x at hxT ⊢
    obtain ⟨k, a, b⟩ := x
    simp only
    have hvs := hF.2.2.2.2.2
    have hst : stepX u (sxOf M fs f) ⟨k, a, b⟩ = if k = 22 then backX (sxOf M fs f)
      else if k = 20 ∨ k = 21 then callX u (sxOf M fs f) ⟨k, a, b⟩
      else if k = 23 then (if (refX (sxOf M fs f)).1 = 0 then (wrongX (refX (sxOf M fs f)).2 2).res else if (refX (sxOf M fs f)).2.st = false then throwX u (refX (sxOf M fs f)).1 (refX (sxOf M fs f)).2.mch (refX (sxOf M fs f)).2.st (refX (sxOf M fs f)).2.ft else (refX (sxOf M fs f)).2.res)
      else if 8 ≤ k ∧ k ≤ 11 then jumpX (sxOf M fs f) ⟨k, a, b⟩
      else plainRes u (sxOf M fs f) ⟨k, a, b⟩ := rfl
    rw [hst]
    by_cases k22 : k = 22
    · subst k22
      rw [if_pos rfl]
      simp only [show (20 : Int) ≤ 22 ∧ (22 : Int) ≤ 23 from by decide, and_self, if_true]
      exact rl_back u M fs f a b
    rw [if_neg k22]
    by_cases k20 : k = 20
    · subst k20
      rw [if_pos (.inl rfl)]
      simp only [show (20 : Int) ≤ 20 ∧ (20 : Int) ≤ 23 from by decide, and_self, if_true]
      exact rl_call u M fs f a b hfs
    by_cases k21 : k = 21
    · subst k21
      have := (InsT_iff (p := 5) (q := 9) rfl).1 hxT
      simp [OperT] at this
      rw [if_pos (.inr rfl)]
      simp only [show (20 : Int) ≤ 21 ∧ (21 : Int) ≤ 23 from by decide, and_self, if_true]
      exact rl_send u M fs f a b hfs this.1.1 hvs
    rw [if_neg (by omega)]
    by_cases k23 : k = 23
    · subst k23
      rw [if_pos rfl]
      simp only [show (20 : Int) ≤ 23 ∧ (23 : Int) ≤ 23 from by decide, and_self, if_true]
      exact rl_throw u M fs f a b hvs
    rw [if_neg k23]
    have hno : ¬ (20 ≤ k ∧ k ≤ 23) := by omega
    simp only [hno, if_false]
    by_cases kj : 8 ≤ k ∧ k ≤ 11
    · rw [if_pos kj]
      exact rl_jump u M fs f k a b kj
    rw [if_neg kj]
    by_cases kt : 12 ≤ k ∧ k ≤ 19
    · refine rl_things u M fs f k a b kt hvs (fun hk => ?_) (fun hk => ?_)
      · rcases hk with rfl | rfl | rfl
        all_goals
          have := (InsT_iff (p := 6) (q := 0) rfl).1 hxT
          simp [OperT] at this
          exact this.1
      · exact (hxT.things.1 hk).1
    · have hkk : k = 1 ∨ k = 2 ∨ k = 3 ∨ k = 4 ∨ k = 5 ∨ k = 6 ∨ k = 7 ∨ k = 24 := by
        obtain ⟨p, q, hw, _⟩ := hxT
        have hmem := wantK_mem hw
        simp only [wantL, wantV, List.mem_cons, List.not_mem_nil, or_false, Prod.mk.injEq] at hmem
        omega
      exact rl_plain u M fs f k a b hkk
end Go.Proofs
namespace Go.Proofs
open Go.Vc
set_option maxRecDepth 100000
set_option maxHeartbeats 4000000
theorem XM.made {h h1 h2 : Heap} {mc : List Value} {M : Mch} {B : List Nat} {bx : Nat} {t : TypeId} {us : List Value} {u : Unt} (own : OwnM h1 mc M B) (nd : Nd B) (fr : ∀ b ∈ B, h b = none) (hl : h.le h1) (hb : h1 bx = none) (hl2 : h1.le h2)
    (hg : h2 bx = some (.cells (us ++ mc ++ [Value.bool false, Value.int .i64 0]).toArray t (0, 0))) (hu : UntR h us u) : XM h h2 bx us u M false 0 B := by
  have hn : bx ∉ B := fun hx => by
    obtain ⟨o, ho⟩ := own.in bx hx
    rw [hb] at ho; cases ho
  refine ⟨⟨Heap.le_trans hl hl2, ⟨mc, t, hg, own.keep (Keep.of_le hl2 _)⟩, ?_, fun b hx => ?_⟩, hu⟩
  · intro a
    have := nd a
    by_cases ha : bx = a
    · subst ha
      simp [List.count_eq_zero.2 hn]
    · simp [ha]; exact this
  · rcases List.mem_cons.1 hx with rfl | hx
    · cases hh : h b with
      | none => rfl
      | some o => rw [hl b o hh] at hb; cases hb
    · exact fr b hx
theorem XM.again {h h4 h5 h6 : Heap} {mc : List Value} {M : Mch} {B : List Nat} {bx : Nat} {t : TypeId} {o : Obj} {us : List Value} {u : Unt} {sk : Bool} {ft : Int} (own : OwnM h5 mc M B) (nd : Nd B) (fr : ∀ b ∈ B, h4 b = none) (hl : h.le h4) (hl5 : h4.le h5) (hb : h4 bx = some o) (hn : h bx = none)
    (hg : h6 bx = some (.cells (us ++ mc ++ [Value.bool sk, Value.int .i64 ft]).toArray t (0, 0))) (keep : ∀ b, b ≠ bx → h6 b = h5 b) (hu : UntR h us u) : XM h h6 bx us u M sk ft B := by
  have hnb : bx ∉ B := fun hx => by have := fr bx hx; rw [hb] at this; cases this
  refine ⟨⟨fun b x hx => ?_, ⟨mc, t, hg, own.keep fun b hb2 o ho => ?_⟩, ?_, fun b hx => ?_⟩, hu⟩
  · have : b ≠ bx := by rintro rfl; rw [hn] at hx; cases hx
    rw [keep b this]; exact hl5 _ _ (hl _ _ hx)
  · have : b ≠ bx := by rintro rfl; exact hnb hb2
    rw [keep b this]; exact ho
  · intro a
    have := nd a
    by_cases ha : bx = a
    · subst ha
      simp [List.count_eq_zero.2 hnb]
    · simp [ha]; exact this
  · rcases List.mem_cons.1 hx with rfl | hx
    · exact hn
    · cases hh : h b with
      | none => rfl
      | some o => have := fr b hx; rw [hl _ _ hh] at this; cases this
theorem XM.out {h0 h : Heap} {bx : Nat} {us : List Value} {u : Unt} {M : Mch} {sk : Bool} {ft : Int} {B : List Nat} (hX : XM h0 h bx us u M sk ft B) : ∃ po co pf cf ps cs, rdn h bx 2 7 = some (msl po co pf cf ps cs M) ∧ OwnM h (msl po co pf cf ps cs M) M B ∧ Nd B ∧ ∀ b ∈ B, h0 b = none := by
  have hu2 := hX.us2
  obtain ⟨⟨le, ⟨mc, t, hb, own⟩, nd, fr⟩, _⟩ := hX
  obtain ⟨po, co, pf, cf, ps, cs, rfl⟩ := own.msl
  refine ⟨po, co, pf, cf, ps, cs, ?_, own, nd.less fun a => by simp only [List.count_cons]; omega, fun b hx => fr b (List.mem_cons_of_mem _ hx)⟩
  have h7 : (msl po co pf cf ps cs M).length = 7 := rfl
  rw [rdn_cells hb 7 2 (by simp [hu2, h7])]
  congr 1
  rw [List.append_assoc, List.drop_append_of_le_length (by omega), ← hu2, List.drop_length, List.nil_append]
  have : (7 : Nat) = (msl po co pf cf ps cs M).length := rfl
  rw [this, List.take_left]
theorem XM.stSteps {h0 h : Heap} {bx : Nat} {us : List Value} {u : Unt} {M : Mch} {sk : Bool} {ft n : Int} {B : List Nat} {K : Heap → Prop} (hX : XM h0 h bx us u M sk ft B) (hk : ∀ h', XM h0 h' bx us u { M with steps := n } sk ft B → K h') : St h bx 5 [.int .i64 n] K := by
  have hu2 := hX.us2
  obtain ⟨t, vo, vf, vs, hb, _, _, _, reb⟩ := hX.ma.ints
  have hr := (reb { M with steps := n } rfl rfl rfl).1
  refine st1h hb (i := 3) (mcells vo vf vs { M with steps := n }) (by rw [hu2]) (by simp [mcells]) rfl (fun h' e' _ => ?_)
  rw [← e'] at hr
  exact hk h' ⟨hr, hX.un⟩
theorem XM.stFin {h0 h : Heap} {bx : Nat} {us : List Value} {u : Unt} {M : Mch} {sk : Bool} {ft n : Int} {B : List Nat} {K : Heap → Prop} (hX : XM h0 h bx us u M sk ft B) (hk : ∀ h', XM h0 h' bx us u { M with fin := n } sk ft B → K h') : St h bx 6 [.int .i64 n] K := by
  have hu2 := hX.us2
  obtain ⟨t, vo, vf, vs, hb, _, _, _, reb⟩ := hX.ma.ints
  have hr := (reb { M with fin := n } rfl rfl rfl).1
  refine st1h hb (i := 4) (mcells vo vf vs { M with fin := n }) (by rw [hu2]) (by simp [mcells]) rfl (fun h' e' _ => ?_)
  rw [← e'] at hr
  exact hk h' ⟨hr, hX.un⟩
theorem l14Copy_k {K : Value → Heap → Prop} {E : List PanicEntry → Heap → Prop} (mc : List Value) (M : Mch) (h : Heap) (hr : MchR h mc M)
    (hK : ∀ h' po co pf cf ps cs B, h.le h' → OwnM h' (msl po co pf cf ps cs M) M B → Nd B → (∀ b ∈ B, h b = none) → K (.agg ⟨msl po co pf cf ps cs M⟩) h') : CallX Tryz.prog 74 [.agg ⟨mc⟩] h K E := callX_r (l14Copy_c mc M h hr) (fun v h' hh => by
  obtain ⟨l1, mc', B, rfl, own, nd, fr⟩ := hh
  obtain ⟨po, co, pf, cf, ps, cs, rfl⟩ := own.msl
  exact ⟨l1, hK h' po co pf cf ps cs B l1 own nd fr⟩)
theorem l14Copy_k' {K : Value → Heap → Prop} {E : List PanicEntry → Heap → Prop} (mc : List Value) (M : Mch) (h : Heap) (hr : MchR h mc M)
    (hK : ∀ h' po co pf cf ps cs B, h.le h' → OwnM h' (msl po co pf cf ps cs M) M B → Nd B → (∀ b ∈ B, h b = none) → K (.agg ⟨msl po co pf cf ps cs M⟩) h') : Vc.Call Tryz.prog 74 [.agg ⟨mc⟩] h K E := call_r (l14Copy_c mc M h hr) (fun v h' hh => by
  obtain ⟨l1, mc', B, rfl, own, nd, fr⟩ := hh
  obtain ⟨po, co, pf, cf, ps, cs, rfl⟩ := own.msl
  exact hK h' po co pf cf ps cs B l1 own nd fr)
def stepU (u : Unt) (fs : List Frm) (f : Frm) (M : Mch) : Mch := match doS u fs f M with
  | .ok M' => { M' with steps := M.steps + 1 }
  | .error k => if k = 0 then { M with fin := 3, steps := M.steps + 1 } else { throwS u k M with steps := M.steps + 1 }
theorem stepS_U {u : Unt} {M : Mch} {fs : List Frm} {f : Frm} (hf : M.frames = fs ++ [f]) (hg : ¬ (M.fin ≠ 0 ∨ 200 ≤ M.steps ∨ 200 ≤ M.said.length ∨ 207 ≤ M.objs.length)) : stepS u M = stepU u fs f M := by
  rw [stepS_app hf hg]
  unfold stepU
  cases hd : doS u fs f M with
  | ok M' => simp only [doS_steps hd]
  | error k =>
    by_cases hk : k = 0
    · simp [hk]
    · simp [hk, throwS_steps]
theorem l14Step_c (mc us : List Value) (u : Unt) (M : Mch) (h : Heap) (fs : List Frm) (f : Frm) (hr : MchR h mc M) (hu : UntR h us u) (hT : UnitT u) (hI : MOk u M) (hf : M.frames = fs ++ [f]) (hfin : M.fin = 0) :
    Rets Tryz.prog 43 [.agg ⟨us⟩, .agg ⟨mc⟩] h fun v h' => h.le h' ∧ ∃ mc' B, v = .agg ⟨mc'⟩ ∧ OwnM h' mc' (stepU u fs f M) B ∧ Nd B ∧ ∀ b ∈ B, h b = none := by
  have hr0 := hr
  have hu0 := hu
  have hrl := rl_step u M fs f hT hI hf
  have hff : f ∈ M.frames := by rw [hf]; simp
  have hF := hI.frm f hff
  have hst := hI.steps
  have hlfs : M.frames.length = fs.length + 1 := by rw [hf]; simp
  have hnf := hI.nf
  obtain ⟨p, cc, q, d, rfl, hcs, hms, hl1, hl2⟩ := hu.form
  obtain ⟨vo, vf, vs, rfl, s1, s2, ho, hfr, hs⟩ := hr
  obtain ⟨po, co, rfl, _, _⟩ := ho.len
  obtain ⟨pf, cf, rfl, _, _⟩ := hfr.len
  obtain ⟨ps, cs, hvs⟩ : ∃ p c, vs = .slice p M.said.length c := by
    obtain ⟨_, _, p, c, e, _⟩ := hs
    exact ⟨p, c, by simpa using e⟩
  subst hvs
  have hil : fs.length < M.frames.length := by omega
  have hfe : M.frames[fs.length] = f := by simp [hf]
  obtain ⟨bb, off, xs, hq, e1, v1, v2, rfl, e2, e3⟩ := hfr.get hil
  rw [hfe] at e1 e2 e3
  obtain ⟨_, _, pv1, cv1, rfl, _⟩ := e2
  obtain ⟨_, _, pv2, cv2, rfl, _⟩ := e3
  have hi : f.meth.toNat < u.methods.length := by have := hF.1; omega
  obtain ⟨bu, ou, ms, hqu, eu1, eu2⟩ := hms.get hi
  have hme : mth u f.meth = u.methods[f.meth.toNat] := mth_eq hi (by have := hF.1; omega)
  obtain ⟨p1, c1, p2, c2, p3, c3, p4, c4, e5, k1, k2, k3, k4, k5, k6, k7, k8, d1, d2, d3, d4⟩ := eu2.form
  subst e5
  rw [← hme] at k6 d2
  have rcode : rd h bu (ou + f.meth.toNat * 8 + 5) = some (.slice p2 (mth u f.meth).code.length c2) := by rw [hme]; exact rdn_get eu1 (i := 5) rfl
  have hmt := hT.mth hF.1
  have hnpc := hF.2.1
  have hl14 : l14X u M fs f = if f.pc = (mth u f.meth).code.length then (M, true, 0) else stepX u (sxOf M fs f) ((mth u f.meth).code.getD f.pc.toNat noIns) := rfl
  generalize hres : l14X u M fs f = res at hrl hl14
  have hidx : off + (((M.frames.length : Int) - 1).toNat) * 4 = off + fs.length * 4 := by omega
  have e1' : rdn h bb (off + (((M.frames.length : Int) - 1).toNat) * 4) 4 = some [.int .i64 f.meth, .int .i64 f.pc, .slice pv1 (List.map vl2 f.locals).length cv1, .slice pv2 (List.map vl2 f.stack).length cv2] := by rw [hidx]; exact e1
  have hcase : (∃ M', res = (M', false, 0) ∧ stepU u fs f M = { M' with steps := M.steps + 1 }) ∨ (res.2.1 = true ∧ stepU u fs f M = { M with fin := 3, steps := M.steps + 1 }) ∨ (∃ k, (0 < k ∧ k ≤ 7) ∧ res.2.1 = false ∧ res.2.2 = k ∧ stepU u fs f M = { throwS u k M with steps := M.steps + 1 }) := by
    cases hd : doS u fs f M with
    | ok M' =>
      rw [hd] at hrl
      exact .inl ⟨M', hrl, by unfold stepU; rw [hd]⟩
    | error k =>
      rw [hd] at hrl
      have hfl := doS_err hd
      by_cases hk : k = 0
      · refine .inr (.inl ⟨?_, by unfold stepU; rw [hd]; simp [hk]⟩)
        simpa [Rl, hk] using hrl
      · refine .inr (.inr ⟨k, hfl.resolve_left hk, ?_⟩)
        have : res.2.1 = false ∧ res.2.2 = k := by simpa [Rl, hk] using hrl
        exact ⟨this.1, this.2, by unfold stepU; rw [hd]; simp [hk]⟩
  generalize stepU u fs f M = Mx at hcase ⊢
  have hstok : f.pc ≠ (mth u f.meth).code.length → StOk u (sxOf M fs f) := fun hp => ⟨⟨⟨hI.len.1, by show M.objs.length ≤ 300; have := hI.len.2; omega⟩, hI.objs, by show fs.length ≤ 3; omega, hF, by show (0 : Int) ≤ 0; omega⟩, fun g hg => hI.frm g (by rw [hf]; simp; exact .inl hg), rfl, rfl, by show f.pc < ((mth u f.meth).code.length : Int); omega, by show M.said.length ≤ 300; have := hI.nsaid; omega⟩
  have hmch : (sxOf M fs f).mch = M := by unfold sxOf Sx.mch; rw [← hf]
  have hthrow : ∀ k, 0 < k → k ≤ 7 → throwX u k M false 0 = (throwS u k M, false, 0) := fun k h1 h2 => by
    unfold throwX
    rw [hI.low k h1 h2, if_neg]
    rw [up_refl hT.1 (by omega) (by have := hT.1.1; omega)]
    simp
  have hct : ∀ m ∈ u.methods, ∀ c ∈ m.catches, (0 ≤ c.hi ∧ c.hi ≤ 1000) ∧ 0 ≤ c.cls := fun m hm c hc => by
    have hmt := hT.2.2.2.1 m hm
    have h1 := hmt.2.2.2 c hc
    have h2 := hmt.2.1.2.1
    obtain ⟨q1, q2, q3, _⟩ := h1
    omega
  have hcode : f.pc ≠ (mth u f.meth).code.length → ∃ bc oc ck ca cb, p2 = some ⟨bc, oc, none⟩ ∧ rdn h bc (oc + f.pc.toNat * 3) 3 = some [.int .i64 ck, .int .i64 ca, .int .i64 cb] ∧ InsT u (mth u f.meth) ⟨ck, ca, cb⟩ ∧ (mth u f.meth).code.getD f.pc.toNat noIns = ⟨ck, ca, cb⟩ := by
    intro hp
    have hil2 : f.pc.toNat < (mth u f.meth).code.length := by omega
    obtain ⟨bc, oc, cvs, hqc, f1, f2, f3⟩ := k6.get hil2
    have hg : (mth u f.meth).code.getD f.pc.toNat noIns = (mth u f.meth).code[f.pc.toNat] := by simp [hil2]
    subst f2
    exact ⟨bc, oc, _, _, _, hqc, f1, hmt.2.1.2.2.2.1 _ (List.getElem_mem hil2), hg⟩
  have hclen := hmt.2.1.2.1
  refine rets Tryz.sigOk Tryz.func43 Tryz.F43 Tryz.ok43 rfl ?_
  unfold mcells
  conv => whnf
  repeat' ((first | exact trivial | refine And.intro ?_ ?_ | refine l14Copy_k _ M h hr0 (fun h1 po1 co1 pf1 cf1 ps1 cs1 B1 l1 own1 nd1 fr1 => ?_)) <;> conv => whnf)
  refine new' ([.slice p u.classes.length cc, .slice q u.methods.length d] ++ msl po1 co1 pf1 cf1 ps1 cs1 M ++ [.bool false, .int .i64 0]) rfl (fun bx h2 hb2 ee2 l2 g2 => ?_)
  have hX2 : XM h h2 bx [.slice p u.classes.length cc, .slice q u.methods.length d] u M false 0 B1 := XM.made own1 nd1 fr1 l1 hb2 l2 g2 hu0
  have l02 := Heap.le_trans l1 l2
  have hbxn : h bx = none := by
    cases hh : h bx with
    | none => rfl
    | some o => rw [l1 bx o hh] at hb2; cases hb2
  have e1'' := rdn_le' l02 e1'
  have rcode' := rd_le l02 rcode
  conv => whnf
  refine ar_in (by omega) (by omega) ?_
  conv => whnf
  refine ob (by omega) ?_
  conv => whnf
  refine ptr' hq ?_
  conv => whnf
  refine ldn e1'' ?_
  conv => whnf
  repeat' ((first | exact trivial | refine And.intro ?_ ?_ | refine ob (by have := hF.1; omega) ?_ | refine ptr' hqu ?_ | refine ld rcode' ?_) <;> conv => whnf)
  refine selP (fun gpc => ?_) (fun gpc => ?_)
  all_goals conv => whnf
  · have hres0 : res = (M, true, 0) := by rw [hl14, if_pos gpc]
    refine hX2.stuck (fun h3 hX3 ev3 e3 => ?_)
    obtain ⟨B3, hB3⟩ : ∃ B3, B3 = B1 := ⟨_, rfl⟩
    rw [← hB3] at hX3
    replace hX3 : XM h h3 bx [.slice p u.classes.length cc, .slice q u.methods.length d] u res.1 res.2.1 res.2.2 B3 := by rw [hres0]; exact hX3
    have hXm := hX3.ma.le
    refine hcase.elim (fun hA => ?_) (fun hcase => hcase.elim (fun hB => ?_) (fun hC => ?_))
    · refine hA.elim fun M' hA => ?_
      have hMx := hA.2
      have hres' := hA.1
      rw [hres'] at hX3
      have r9 := hX3.rds.1
      have r10 := hX3.rds.2.1
      conv => whnf
      repeat' ((first | refine ld r9 ?_ | refine ld r10 ?_ | refine ob (by omega) ?_ | refine ar_in (by omega) (by omega) ?_ | refine ptr ?_) <;> conv => whnf)
      refine hX3.stSteps (fun h4 hX4 => ?_)
      refine hX4.out.elim fun po4 ho => ho.elim fun co4 ho => ho.elim fun pf4 ho => ho.elim fun cf4 ho => ho.elim fun ps4 ho => ho.elim fun cs4 ho => ?_
      have hrdn := ho.1
      conv => whnf
      refine ldn hrdn ?_
      conv => whnf
      rw [hMx]
      exact ⟨hX4.ma.le, _, B3, rfl, ho.2⟩
    · have hMx := hB.2
      rw [hB.1] at hX3
      have r9 := hX3.rds.1
      conv => whnf
      repeat' ((first | refine ld r9 ?_ | refine ob (by omega) ?_ | refine ar_in (by omega) (by omega) ?_ | refine ptr ?_) <;> conv => whnf)
      refine l14Copy_k' _ M h3 (hr0.le hXm) (fun h4 po4 co4 pf4 cf4 ps4 cs4 B4 l4 own4 nd4 fr4 => ?_)
      refine hX3.ma.cell.elim fun mc3 hc => hc.elim fun t3 hc => ?_
      have hb3 := hc.1
      have hm3 : mc3.length = 7 := by obtain ⟨_, _, _, _, _, _, rfl, _⟩ := hc.2; rfl
      conv => whnf
      refine sth (l4 _ _ hb3) ([.slice p u.classes.length cc, .slice q u.methods.length d] ++ msl po4 co4 pf4 cf4 ps4 cs4 M ++ [.bool true, .int .i64 res.2.2]) (by simp [hm3]) (wr_all (by simp) (by rw [hm3]; rfl)) (fun h5 e5 g5 => ?_)
      have hX5 : XM h h5 bx [.slice p u.classes.length cc, .slice q u.methods.length d] u M true res.2.2 B4 := XM.again own4 nd4 fr4 hXm l4 hb3 hbxn g5 (fun b hb => by rw [e5]; simp only [Heap.set, hb, if_false]) hu0
      conv => whnf
      refine hX5.stFin (fun h6 hX6 => ?_)
      conv => whnf
      refine ar_in (by omega) (by omega) ?_
      conv => whnf
      refine hX6.stSteps (fun h7 hX7 => ?_)
      refine hX7.out.elim fun po4 ho => ho.elim fun co4 ho => ho.elim fun pf4 ho => ho.elim fun cf4 ho => ho.elim fun ps4 ho => ho.elim fun cs4 ho => ?_
      have hrdn := ho.1
      conv => whnf
      refine ldn hrdn ?_
      conv => whnf
      rw [hMx]
      exact ⟨hX7.ma.le, _, B4, rfl, ho.2⟩
    · refine hC.elim fun k hC => ?_
      have hk := hC.1
      have hMx := hC.2.2.2
      have hth := hthrow k hk.1 hk.2
      rw [hC.2.1, hC.2.2.1] at hX3
      have r9 := hX3.rds.1
      have r10 := hX3.rds.2.1
      conv => whnf
      refine ld r9 ?_
      conv => whnf
      refine ld r10 ?_
      conv => whnf
      refine selPt hk.1 ?_
      conv => whnf
      refine ld r10 ?_
      conv => whnf
      repeat' ((first | exact trivial | refine And.intro ?_ ?_ | refine l14Copy_k _ M h3 (hr0.le hXm) (fun h4 po4 co4 pf4 cf4 ps4 cs4 B4 l4 own4 nd4 fr4 => ?_)) <;> conv => whnf)
      refine new' ([.slice p u.classes.length cc, .slice q u.methods.length d] ++ msl po4 co4 pf4 cf4 ps4 cs4 M ++ [.bool false, .int .i64 0]) rfl (fun by5 h5 hb5 ee5 l5 g5 => ?_)
      have fr4' : ∀ b ∈ B4, h b = none := fun b hb => by
        cases hh : h b with
        | none => rfl
        | some o => have := fr4 b hb; rw [hXm b o hh] at this; cases this
      have hX5 : XM h h5 by5 [.slice p u.classes.length cc, .slice q u.methods.length d] u M false 0 B4 := XM.made own4 nd4 fr4' (Heap.le_trans hXm l4) hb5 l5 g5 hu0
      have hthr := throw_x hX5 hT.1 k (by have := hI.len; omega) (by have := hI.len; omega) (by omega) (by rw [hI.low k hk.1 hk.2]; have := hT.1.1; omega) (fun g hg => (hI.frm g hg).1) hct
      rw [hth] at hthr
      conv => whnf
      refine call_r hthr (fun v h6 hh => ?_)
      refine hh.elim fun B6 hh => ?_
      have hX6 : XM h h6 by5 [.slice p u.classes.length cc, .slice q u.methods.length d] u (throwS u k M) false 0 B6 := hh.1
      have w9 := hX6.rds.1
      conv => whnf
      refine ld w9 ?_
      conv => whnf
      refine ar_in (by omega) (by omega) ?_
      conv => whnf
      refine hX6.stSteps (fun h7 hX7 => ?_)
      refine hX7.out.elim fun po4 ho => ho.elim fun co4 ho => ho.elim fun pf4 ho => ho.elim fun cf4 ho => ho.elim fun ps4 ho => ho.elim fun cs4 ho => ?_
      have hrdn := ho.1
      conv => whnf
      refine ldn hrdn ?_
      conv => whnf
      rw [hMx]
      exact ⟨hX7.ma.le, _, B6, rfl, ho.2⟩
  · have hres0 : res = stepX u (sxOf M fs f) ((mth u f.meth).code.getD f.pc.toNat noIns) := by rw [hl14, if_neg gpc]
    refine (hcode gpc).elim fun bc hc => hc.elim fun oc hc => hc.elim fun ck hc => hc.elim fun ca hc => hc.elim fun cb hc => ?_
    have hqc := hc.1
    have hrc := rdn_le' l02 hc.2.1
    have hXs : XS h h2 bx [.slice p u.classes.length cc, .slice q u.methods.length d] u (sxOf M fs f) B1 := by
      show XM h h2 bx _ u (sxOf M fs f).mch false 0 B1
      rw [hmch]; exact hX2
    have hstp := step_x hXs (hstok gpc) hT ck ca cb hc.2.2.1
    rw [hc.2.2.2] at hres0
    rw [← hres0] at hstp
    repeat' ((first | exact trivial | refine And.intro ?_ ?_ | refine ob (by have := hF.1; omega) ?_ | refine ptr' hqu ?_ | refine ld rcode' ?_ | refine ptr' hqc ?_ | refine ldn hrc ?_) <;> conv => whnf)
    refine call_r hstp (fun v h3 hh => ?_)
    refine hh.elim fun B3 hh => ?_
    have hX3 := hh.1
    have hXm := hX3.ma.le
    refine hcase.elim (fun hA => ?_) (fun hcase => hcase.elim (fun hB => ?_) (fun hC => ?_))
    · refine hA.elim fun M' hA => ?_
      have hMx := hA.2
      have hres' := hA.1
      rw [hres'] at hX3
      have r9 := hX3.rds.1
      have r10 := hX3.rds.2.1
      conv => whnf
      repeat' ((first | refine ld r9 ?_ | refine ld r10 ?_ | refine ob (by omega) ?_ | refine ar_in (by omega) (by omega) ?_ | refine ptr ?_) <;> conv => whnf)
      refine hX3.stSteps (fun h4 hX4 => ?_)
      refine hX4.out.elim fun po4 ho => ho.elim fun co4 ho => ho.elim fun pf4 ho => ho.elim fun cf4 ho => ho.elim fun ps4 ho => ho.elim fun cs4 ho => ?_
      have hrdn := ho.1
      conv => whnf
      refine ldn hrdn ?_
      conv => whnf
      rw [hMx]
      exact ⟨hX4.ma.le, _, B3, rfl, ho.2⟩
    · have hMx := hB.2
      rw [hB.1] at hX3
      have r9 := hX3.rds.1
      conv => whnf
      repeat' ((first | refine ld r9 ?_ | refine ob (by omega) ?_ | refine ar_in (by omega) (by omega) ?_ | refine ptr ?_) <;> conv => whnf)
      refine l14Copy_k' _ M h3 (hr0.le hXm) (fun h4 po4 co4 pf4 cf4 ps4 cs4 B4 l4 own4 nd4 fr4 => ?_)
      refine hX3.ma.cell.elim fun mc3 hc => hc.elim fun t3 hc => ?_
      have hb3 := hc.1
      have hm3 : mc3.length = 7 := by obtain ⟨_, _, _, _, _, _, rfl, _⟩ := hc.2; rfl
      conv => whnf
      refine sth (l4 _ _ hb3) ([.slice p u.classes.length cc, .slice q u.methods.length d] ++ msl po4 co4 pf4 cf4 ps4 cs4 M ++ [.bool true, .int .i64 res.2.2]) (by simp [hm3]) (wr_all (by simp) (by rw [hm3]; rfl)) (fun h5 e5 g5 => ?_)
      have hX5 : XM h h5 bx [.slice p u.classes.length cc, .slice q u.methods.length d] u M true res.2.2 B4 := XM.again own4 nd4 fr4 hXm l4 hb3 hbxn g5 (fun b hb => by rw [e5]; simp only [Heap.set, hb, if_false]) hu0
      conv => whnf
      refine hX5.stFin (fun h6 hX6 => ?_)
      conv => whnf
      refine ar_in (by omega) (by omega) ?_
      conv => whnf
      refine hX6.stSteps (fun h7 hX7 => ?_)
      refine hX7.out.elim fun po4 ho => ho.elim fun co4 ho => ho.elim fun pf4 ho => ho.elim fun cf4 ho => ho.elim fun ps4 ho => ho.elim fun cs4 ho => ?_
      have hrdn := ho.1
      conv => whnf
      refine ldn hrdn ?_
      conv => whnf
      rw [hMx]
      exact ⟨hX7.ma.le, _, B4, rfl, ho.2⟩
    · refine hC.elim fun k hC => ?_
      have hk := hC.1
      have hMx := hC.2.2.2
      have hth := hthrow k hk.1 hk.2
      rw [hC.2.1, hC.2.2.1] at hX3
      have r9 := hX3.rds.1
      have r10 := hX3.rds.2.1
      conv => whnf
      refine ld r9 ?_
      conv => whnf
      refine ld r10 ?_
      conv => whnf
      refine selPt hk.1 ?_
      conv => whnf
      refine ld r10 ?_
      conv => whnf
      repeat' ((first | exact trivial | refine And.intro ?_ ?_ | refine l14Copy_k _ M h3 (hr0.le hXm) (fun h4 po4 co4 pf4 cf4 ps4 cs4 B4 l4 own4 nd4 fr4 => ?_)) <;> conv => whnf)
      refine new' ([.slice p u.classes.length cc, .slice q u.methods.length d] ++ msl po4 co4 pf4 cf4 ps4 cs4 M ++ [.bool false, .int .i64 0]) rfl (fun by5 h5 hb5 ee5 l5 g5 => ?_)
      have fr4' : ∀ b ∈ B4, h b = none := fun b hb => by
        cases hh : h b with
        | none => rfl
        | some o => have := fr4 b hb; rw [hXm b o hh] at this; cases this
      have hX5 : XM h h5 by5 [.slice p u.classes.length cc, .slice q u.methods.length d] u M false 0 B4 := XM.made own4 nd4 fr4' (Heap.le_trans hXm l4) hb5 l5 g5 hu0
      have hthr := throw_x hX5 hT.1 k (by have := hI.len; omega) (by have := hI.len; omega) (by omega) (by rw [hI.low k hk.1 hk.2]; have := hT.1.1; omega) (fun g hg => (hI.frm g hg).1) hct
      rw [hth] at hthr
      conv => whnf
      refine call_r hthr (fun v h6 hh => ?_)
      refine hh.elim fun B6 hh => ?_
      have hX6 : XM h h6 by5 [.slice p u.classes.length cc, .slice q u.methods.length d] u (throwS u k M) false 0 B6 := hh.1
      have w9 := hX6.rds.1
      conv => whnf
      refine ld w9 ?_
      conv => whnf
      refine ar_in (by omega) (by omega) ?_
      conv => whnf
      refine hX6.stSteps (fun h7 hX7 => ?_)
      refine hX7.out.elim fun po4 ho => ho.elim fun co4 ho => ho.elim fun pf4 ho => ho.elim fun cf4 ho => ho.elim fun ps4 ho => ho.elim fun cs4 ho => ?_
      have hrdn := ho.1
      conv => whnf
      refine ldn hrdn ?_
      conv => whnf
      rw [hMx]
      exact ⟨hX7.ma.le, _, B6, rfl, ho.2⟩
end Go.Proofs
namespace Go.Proofs
open Go.Vc
set_option maxRecDepth 100000
set_option maxHeartbeats 4000000
theorem l13Faults_c (h : Heap) : Rets Tryz.prog 97 [] h fun v h' => h.le h' ∧ ∃ p c B, v = .slice p 7 c ∧ OwnL OwnO 2 h' v (faultsN 7) B ∧ Nd B ∧ ∀ b ∈ B, h b = none := by
  refine rets Tryz.sigOk Tryz.func97 Tryz.F97 Tryz.ok97 rfl ?_
  conv => whnf
  refine new' [] rfl (fun b0 h1 hb0 e0 l1 g0 => ?_)
  conv => whnf
  refine lps [1, 2] [] (fun s : Nat × Heap × Option Addr × Nat × List Nat => s.1 ≤ 7 ∧ Acc OwnO 2 h s.2.1 (.slice s.2.2.1 s.1 s.2.2.2.1) (faultsN s.1) s.2.2.2.2 []) (fun s => 7 - s.1)
    (fun s => ([.v (.slice s.2.2.1 s.1 s.2.2.2.1), .v (.int .i64 ((s.1 : Int) + 1))], [], s.2.1))
    (0, h1, some ⟨b0, 0, none⟩, 0, [b0]) ⟨by omega, Acc.start0 l1 hb0 g0 (by simp) (fun _ => by simp) (by simp) (by simp)⟩ rfl ?_
  rintro ⟨i, h2, pp, cp, B⟩ ⟨hi7, ac⟩
  simp only at hi7 ac ⊢
  conv => whnf
  refine selP (fun g => ?_) (fun g => ?_)
  all_goals conv => whnf
  · refine call_p (l13Int_c _ _) ?_
    conv => whnf
    refine new' [.bool false, .int .i64 ((i : Int) + 1)] rfl (fun b h3 hb hh l3 hg => ?_)
    conv => whnf
    refine app_acc keptO inO (a := faultOb ((i : Int) + 1)) (Bi := [b]) ac l3 ⟨_, rfl, own_row (vs := [vl2 ⟨false, (i : Int) + 1⟩]) (t := 31) (by simp [vl2]) rfl (by rw [hg]; rfl)⟩ (fun a => by simp only [List.count_cons, List.count_nil]; split <;> omega) (by simpa using hb) rfl rfl rfl rfl (by rw [faultsN_len]; simp; omega) (by rw [faultsN_len]; omega) ?_
    intro p' c' h4 B' ac' hk
    rw [faultsN_len, ← faultsN_succ] at ac'
    rw [faultsN_len]
    conv => whnf
    refine ar_in (by omega) (by omega) ?_
    conv => whnf
    exact lpn (i + 1, h4, p', c', B') ⟨by omega, ac'⟩ (by simp only; omega) rfl
  · have hi6 : i = 7 := by omega
    subst hi6
    exact ⟨ac.le, _, _, B, rfl, ac.own, by have := ac.nd; simpa using this, fun b hb => ac.fr b (by simp [hb])⟩
theorem l13Faults_k {K : Value → Heap → Prop} {E : List PanicEntry → Heap → Prop} (h : Heap) (hK : ∀ h' p c B, h.le h' → OwnL OwnO 2 h' (.slice p 7 c) (faultsN 7) B → Nd B → (∀ b ∈ B, h b = none) → K (.slice p 7 c) h') : CallX Tryz.prog 97 [] h K E := callX_r (l13Faults_c h) (fun v h' hh => by
  obtain ⟨l1, p, c, B, rfl, own, nd, fr⟩ := hh
  exact ⟨l1, hK h' p c B l1 own nd fr⟩)
theorem Nd.two {A B : List Nat} (ha : Nd A) (hb : Nd B) (hd : ∀ b ∈ B, b ∉ A) : Nd (A ++ B) := by
  intro a
  have e1 := ha a
  have e2 := hb a
  simp only [List.count_append]
  by_cases hm : a ∈ B
  · have := List.count_eq_zero.2 (hd a hm); omega
  · have := List.count_eq_zero.2 hm; omega
theorem free_of {h h' : Heap} (hl : h.le h') {b : Nat} (hb : h' b = none) : h b = none := by
  cases hh : h b with
  | none => rfl
  | some o => rw [hl b o hh] at hb; cases hb
theorem notin {h1 hx : Heap} {G : List Nat} (hin : ∀ b ∈ G, ∃ o, h1 b = some o) (hl : h1.le hx) {b : Nat} (hb : hx b = none) : b ∉ G := fun hm => by
  obtain ⟨o, ho⟩ := hin b hm
  rw [hl b o ho] at hb; cases hb
theorem OwnL.inO {h : Heap} {v : Value} {l : List Ob} {B : List Nat} (ho : OwnL OwnO 2 h v l B) : ∀ b ∈ B, ∃ o, h b = some o := ho.in Go.Proofs.inO
theorem two_in {h : Heap} {v w : Value} {l k : List Vl} {A B : List Nat} (ha : OwnV h v l A) (hb : OwnV h w k B) : ∀ b ∈ A ++ B, ∃ o, h b = some o := fun b hx => (List.mem_append.1 hx).elim (ha.in b) (hb.in b)
theorem newM_own (u : Unt) {h h1 h2 hf : Heap} {p1 p2 p3 : Option Addr} {c1 n2 c2 n3 c3 b5 b7 : Nat} {B1 B2 B3 : List Nat} {t5 t7 : TypeId} (hm : (mth u 0).locals ≤ 3) (o1 : OwnL OwnO 2 h1 (.slice p1 7 c1) (faultsN 7) B1) (l1 : h1.le hf) (o2 : OwnV h2 (.slice p2 n2 c2) (callF u 0 []).locals B2) (o3 : OwnV h2 (.slice p3 n3 c3) [] B3) (l2 : h2.le hf)
    (g7 : hf b7 = some (.cells #[.int .i64 0, .int .i64 0, .slice p2 n2 c2, .slice p3 n3 c3] t7 (0, 0))) (g5 : hf b5 = some (.cells #[] t5 (0, 0))) (n1 : Nd B1) (n23 : Nd (B2 ++ B3)) (d1 : ∀ b ∈ B2 ++ B3, b ∉ B1) (d2 : b7 ∉ B1) (d3 : b7 ∉ B2 ++ B3) (d4 : b5 ∉ B1) (d5 : b5 ∉ B2 ++ B3) (d6 : b5 ≠ b7)
    (f1 : ∀ b ∈ B1, h b = none) (f23 : ∀ b ∈ B2 ++ B3, h b = none) (f7 : h b7 = none) (f5 : h b5 = none) (hl : h.le hf) :
    h.le hf ∧ ∃ mc B, (Value.agg #[.slice p1 7 c1, .slice (some ⟨b7, 0, none⟩) 1 1, .slice (some ⟨b5, 0, none⟩) 0 0, .int .i64 0, .int .i64 0, .bool false, .int .i64 0]) = .agg ⟨mc⟩ ∧ OwnM hf mc (newM u) B ∧ Nd B ∧ ∀ b ∈ B, h b = none := by
  have hfr : OwnL OwnF 4 hf (.slice (some ⟨b7, 0, none⟩) 1 1) (newM u).frames ([b7] ++ (B2 ++ B3)) :=
    ⟨[[.int .i64 0, .int .i64 0, .slice p2 n2 c2, .slice p3 n3 c3]], [b7], B2 ++ B3, own_row (t := t7) (by simp) rfl (by rw [g7]; rfl), Rows.one ⟨_, _, B2, B3, rfl, by
      have := o2.keep (Keep.of_le l2 _)
      simp only [callF, List.length_nil, Nat.sub_zero, List.nil_append] at this
      exact this, o3.keep (Keep.of_le l2 _), rfl⟩, rfl⟩
  refine ⟨hl, _, B1 ++ ([b7] ++ (B2 ++ B3)) ++ [b5], rfl, ⟨_, _, _, B1, [b7] ++ (B2 ++ B3), [b5], rfl, o1.keep keptO (Keep.of_le l1 _), hfr, own_empty g5, rfl⟩, ?_, fun b hb => ?_⟩
  · refine Nd.two (Nd.two n1 (Nd.two (fun a => by simp only [List.count_cons, List.count_nil]; split <;> omega) n23 (fun b hb hx => ?_)) (fun b hb => ?_)) (fun a => by simp only [List.count_cons, List.count_nil]; split <;> omega) (fun b hb hx => ?_)
    · rw [List.mem_singleton.1 hx] at hb; exact d3 hb
    · rcases List.mem_append.1 hb with hb | hb
      · rw [List.mem_singleton.1 hb]; exact d2
      · exact d1 b hb
    · rw [List.mem_singleton.1 hb] at hx
      simp only [List.mem_append, List.mem_singleton] at hx d5
      rcases hx with hx | hx | hx
      · exact d4 hx
      · exact d6 hx
      · exact d5 hx
  · simp only [List.mem_append, List.mem_singleton] at hb f23
    rcases hb with (hb | rfl | hb) | rfl
    · exact f1 b hb
    · exact f7
    · exact f23 b hb
    · exact f5
theorem ne_of {h1 hx : Heap} {a b : Nat} {o : Obj} (ha : h1 a = some o) (hl : h1.le hx) (hb : hx b = none) : a ≠ b := fun e => by
  subst e; rw [hl a o ha] at hb; cases hb
theorem sMachNew_c (us : List Value) (u : Unt) (h : Heap) (hu : UntR h us u) (hT : UnitT u) :
    Rets Tryz.prog 42 [.agg ⟨us⟩] h fun v h' => h.le h' ∧ ∃ mc B, v = .agg ⟨mc⟩ ∧ OwnM h' mc (newM u) B ∧ Nd B ∧ ∀ b ∈ B, h b = none := by
  have hu0 := hu
  obtain ⟨p, cc, q, d, rfl, hcs, hms, hl1, hl2⟩ := hu.form
  have hok := sUnitOk_c _ u h hu0
  rw [tf_t hT] at hok
  have h0 : 0 ≤ (0 : Int) ∧ (0 : Int) < u.methods.length := by have := hT.2.1.1; omega
  have hloc := (hT.mth h0).1.2.2.2.2.1
  have hne : ReadV h (.slice none 0 0) [] := ⟨by simp, by simp, none, 0, rfl, by simp, .inl rfl⟩
  refine rets Tryz.sigOk Tryz.func42 Tryz.F42 Tryz.ok42 rfl ?_
  conv => whnf
  refine call_p hok ?_
  conv => whnf
  repeat' ((first | exact newM_own u hloc o1 (Heap.le_trans l2 (Heap.le_trans l7 l5)) o2 o3 (Heap.le_trans l7 l5) (l5 _ _ g7) g5 n1 n23 (fun b hb => notin o1.inO (Heap.le_refl _) (f23 b hb)) (notin o1.inO l2 hb7) (notin (two_in o2 o3) (Heap.le_refl _) hb7) (notin o1.inO (Heap.le_trans l2 l7) hb5) (notin (two_in o2 o3) l7 hb5) (ne_of g7 (Heap.le_refl _) hb5).symm f1 (fun b hb => free_of l1 (f23 b hb)) (free_of (Heap.le_trans l1 l2) hb7) (free_of (Heap.le_trans l1 (Heap.le_trans l2 l7)) hb5) (Heap.le_trans l1 (Heap.le_trans l2 (Heap.le_trans l7 l5))) | exact newM_own u hloc o1 (Heap.le_trans l2 (Heap.le_trans l5 l7)) o2 o3 (Heap.le_trans l5 l7) g7 (l7 _ _ g5) n1 n23 (fun b hb => notin o1.inO (Heap.le_refl _) (f23 b hb)) (notin o1.inO (Heap.le_trans l2 l5) hb7) (notin (two_in o2 o3) l5 hb7) (notin o1.inO l2 hb5) (notin (two_in o2 o3) (Heap.le_refl _) hb5) (ne_of g5 (Heap.le_refl _) hb7) f1 (fun b hb => free_of l1 (f23 b hb)) (free_of (Heap.le_trans l1 (Heap.le_trans l2 l5)) hb7) (free_of (Heap.le_trans l1 l2) hb5) (Heap.le_trans l1 (Heap.le_trans l2 (Heap.le_trans l5 l7))) | exact newM_own u hloc o1 (Heap.le_trans l5 (Heap.le_trans l2 l7)) o2 o3 l7 g7 (l7 _ _ (l2 _ _ g5)) n1 n23 (fun b hb => notin o1.inO l5 (f23 b hb)) (notin o1.inO (Heap.le_trans l5 l2) hb7) (notin (two_in o2 o3) (Heap.le_refl _) hb7) (notin o1.inO (Heap.le_refl _) hb5) (fun hx => ne_of g5 (Heap.le_refl _) (f23 _ hx) rfl) (ne_of g5 l2 hb7) f1 (fun b hb => free_of (Heap.le_trans l1 l5) (f23 b hb)) (free_of (Heap.le_trans l1 (Heap.le_trans l5 l2)) hb7) (free_of l1 hb5) (Heap.le_trans l1 (Heap.le_trans l5 (Heap.le_trans l2 l7))) | exact newM_own u hloc o1 (Heap.le_trans l2 l7) o2 o3 l7 g7 (l7 _ _ (l2 _ _ (l1 _ _ g5))) n1 n23 (fun b hb => notin o1.inO (Heap.le_refl _) (f23 b hb)) (notin o1.inO l2 hb7) (notin (two_in o2 o3) (Heap.le_refl _) hb7) (fun hx => ne_of g5 (Heap.le_refl _) (f1 _ hx) rfl) (fun hx => ne_of g5 l1 (f23 _ hx) rfl) (ne_of g5 (Heap.le_trans l1 l2) hb7) (fun b hb => free_of l5 (f1 b hb)) (fun b hb => free_of (Heap.le_trans l5 l1) (f23 b hb)) (free_of (Heap.le_trans l5 (Heap.le_trans l1 l2)) hb7) hb5 (Heap.le_trans l5 (Heap.le_trans l1 (Heap.le_trans l2 l7))) | exact trivial | refine And.intro ?_ ?_ | refine l13Faults_k h (fun h1 p1 c1 B1 l1 o1 n1 f1 => ?_) | refine l13Faults_k h5 (fun h1 p1 c1 B1 l1 o1 n1 f1 => ?_) | refine l13Frame_k _ u 0 [] _ h1 (hu0.le l1) h0 (hne.le l1) (by simp) (by omega) (fun h2 p2 n2 c2 p3 n3 c3 B2 B3 l2 o2 o3 n23 f23 => ?_) | refine l13Frame_k _ u 0 [] _ h5 (hu0.le (Heap.le_trans l1 l5)) h0 (hne.le (Heap.le_trans l1 l5)) (by simp) (by omega) (fun h2 p2 n2 c2 p3 n3 c3 B2 B3 l2 o2 o3 n23 f23 => ?_) | refine l13Frame_k _ u 0 [] _ h1 (hu0.le (Heap.le_trans l5 l1)) h0 (hne.le (Heap.le_trans l5 l1)) (by simp) (by omega) (fun h2 p2 n2 c2 p3 n3 c3 B2 B3 l2 o2 o3 n23 f23 => ?_) | refine new' [] rfl (fun b5 h5 hb5 e5 l5 g5 => ?_) | refine new' [.int .i64 0, .int .i64 0, .slice p2 n2 c2, .slice p3 n3 c3] rfl (fun b7 h7 hb7 e7 l7 g7 => ?_)) <;> conv => whnf)
end Go.Proofs
namespace Go.Proofs
open Go.Vc
set_option maxRecDepth 100000
set_option maxHeartbeats 4000000
theorem pushS_grow {objs o' : List Ob} {f f' : Frm} {v : Vl} (h : pushS objs f v = .ok (o', f')) : o' = objs := by
  unfold pushS at h
  split at h
  · simp only [Except.ok.injEq, Prod.mk.injEq] at h; exact h.1.symm
  · cases h
theorem thingsS_grow {u : Unt} {x : Ins} {took : List Vl} {objs o' : List Ob} {f f' : Frm} (h : thingsS u x took objs f = .ok (o', f')) : o'.length = objs.length ∨ o'.length = objs.length + 1 := by
  unfold thingsS at h
  simp only [addS] at h
  repeat' split at h
  all_goals first
    | (have := pushS_grow h; subst this; simp; done)
    | (simp only [Except.ok.injEq, Prod.mk.injEq] at h; obtain ⟨rfl, _⟩ := h; simp [putOb]; done)
    | (cases h; done)
theorem midS_grow {u : Unt} {x : Ins} {took : List Vl} {objs o' : List Ob} {f g : Frm} {said said' : List Int} {goes : Bool} (h : midS u x took objs f said = .ok (o', g, said', goes)) :
    (o'.length = objs.length ∨ o'.length = objs.length + 1) ∧ (said'.length = said.length ∨ said'.length = said.length + 1) := by
  have hp : ∀ {f1 : Frm} {v : Vl}, pushM objs f1 said v = .ok (o', g, said', goes) → (o'.length = objs.length ∨ o'.length = objs.length + 1) ∧ (said'.length = said.length ∨ said'.length = said.length + 1) := by
    intro f1 v h
    obtain ⟨o, g1, h1, e⟩ := pushM_inv h
    simp only [Prod.mk.injEq] at e
    obtain ⟨rfl, rfl, rfl, rfl⟩ := e
    rw [pushS_grow h1]; simp
  have hs : ∀ {s : List Int} {f1 : Frm} {b : Bool}, (s.length = said.length ∨ s.length = said.length + 1) → (Except.ok (objs, f1, s, b) : Mid) = .ok (o', g, said', goes) → (o'.length = objs.length ∨ o'.length = objs.length + 1) ∧ (said'.length = said.length ∨ said'.length = said.length + 1) := by
    intro s f1 b hb e
    simp only [Except.ok.injEq, Prod.mk.injEq] at e
    obtain ⟨rfl, rfl, rfl, rfl⟩ := e
    exact ⟨.inl rfl, hb⟩
  unfold midS at h
  simp only at h
  by_cases k1 : x.kind = 1
  · rw [if_pos k1] at h; exact hp h
  rw [if_neg k1] at h
  by_cases k2 : x.kind = 2
  · rw [if_pos k2] at h; exact hp h
  rw [if_neg k2] at h
  by_cases k3 : x.kind = 3
  · rw [if_pos k3] at h; exact hp h
  rw [if_neg k3] at h
  by_cases k4 : x.kind = 4
  · rw [if_pos k4] at h; exact hs (.inl rfl) h
  rw [if_neg k4] at h
  by_cases k5 : x.kind = 5
  · rw [if_pos k5] at h; exact hs (.inl rfl) h
  rw [if_neg k5] at h
  by_cases k6 : x.kind = 6
  · rw [if_pos k6] at h
    split at h
    · exact hp h
    · cases h
  rw [if_neg k6] at h
  by_cases k7 : x.kind = 7
  · rw [if_pos k7] at h
    split at h
    · exact hp h
    · cases h
  rw [if_neg k7] at h
  by_cases k8 : x.kind = 8
  · rw [if_pos k8] at h; exact hs (.inl rfl) h
  rw [if_neg k8] at h
  by_cases k9 : x.kind = 9
  · rw [if_pos k9] at h; exact hs (.inl rfl) h
  rw [if_neg k9] at h
  by_cases k10 : x.kind = 10
  · rw [if_pos k10] at h; exact hs (.inl rfl) h
  rw [if_neg k10] at h
  by_cases k11 : x.kind = 11
  · rw [if_pos k11] at h; exact hs (.inl rfl) h
  rw [if_neg k11] at h
  by_cases k24 : x.kind = 24
  · rw [if_pos k24] at h; exact hs (.inr (by simp)) h
  rw [if_neg k24] at h
  split at h
  · rename_i o1 g1 h1
    simp only [Except.ok.injEq, Prod.mk.injEq] at h
    obtain ⟨rfl, rfl, rfl, rfl⟩ := h
    exact ⟨thingsS_grow h1, .inl rfl⟩
  · cases h
theorem throwS_grow {u : Unt} {n : Int} {M : Mch} : (throwS u n M).objs = M.objs ∧ (throwS u n M).said = M.said := by unfold throwS; split <;> exact ⟨rfl, rfl⟩
theorem callS_grow {u : Unt} {to : Int} {took : List Vl} {M M' : Mch} (h : callS u to took M = .ok M') : M'.objs = M.objs ∧ M'.said = M.said := by
  unfold callS at h
  split at h
  · cases h
  · simp only [Except.ok.injEq] at h; subst h; exact ⟨rfl, rfl⟩
theorem doS_grow {u : Unt} {fs : List Frm} {f : Frm} {M M' : Mch} (h : doS u fs f M = .ok M') : (M'.objs.length = M.objs.length ∨ M'.objs.length = M.objs.length + 1) ∧ (M'.said.length = M.said.length ∨ M'.said.length = M.said.length + 1) := by
  have same : ∀ {N : Mch}, N.objs = M.objs ∧ N.said = M.said → (N.objs.length = M.objs.length ∨ N.objs.length = M.objs.length + 1) ∧ (N.said.length = M.said.length ∨ N.said.length = M.said.length + 1) := fun hN => by rw [hN.1, hN.2]; simp
  unfold doS at h
  simp only at h
  split at h
  · cases h
  · split at h
    · cases h
    · split at h
      · unfold callsS at h
        simp only [backS] at h
        repeat' split at h
        all_goals first
          | (cases h; done)
          | (have hc := callS_grow h; exact same (N := M') ⟨hc.1, hc.2⟩)
          | (simp only [Except.ok.injEq] at h; subst h; first | exact same ⟨rfl, rfl⟩ | exact same throwS_grow)
      · split at h
        · cases h
        · rename_i objs g said goes hm
          simp only [Except.ok.injEq] at h
          subst h
          exact midS_grow hm
def runM (u : Unt) : Nat → Mch
  | 0 => newM u
  | n + 1 => stepS u (runM u n)
structure RunI (u : Unt) (n : Nat) (M : Mch) : Prop where
  ok : MOk u M
  link : Link u M.frames
  le : M.steps ≤ n
  eq : M.fin = 0 → M.steps = n
  said : (M.said.length : Int) ≤ M.steps
  objs : (M.objs.length : Int) ≤ 7 + M.steps
theorem stepS_grow {u : Unt} {M : Mch} : (stepS u M = M ∧ (M.fin ≠ 0 ∨ 200 ≤ M.steps ∨ 200 ≤ M.said.length ∨ 207 ≤ M.objs.length ∨ M.frames = [])) ∨
    ((stepS u M).steps = M.steps + 1 ∧ ((stepS u M).objs.length = M.objs.length ∨ (stepS u M).objs.length = M.objs.length + 1) ∧ ((stepS u M).said.length = M.said.length ∨ (stepS u M).said.length = M.said.length + 1) ∧ M.fin = 0) := by
  by_cases hg : M.fin ≠ 0 ∨ 200 ≤ M.steps ∨ 200 ≤ M.said.length ∨ 207 ≤ M.objs.length
  · left
    refine ⟨?_, by omega⟩
    unfold stepS
    rw [if_pos hg]
  · rcases List.eq_nil_or_concat M.frames with hn | ⟨fs, f, hf⟩
    · left
      refine ⟨?_, by simp [hn]⟩
      unfold stepS
      rw [if_neg hg, hn]
      rfl
    · right
      rw [List.concat_eq_append] at hf
      rw [stepS_U hf hg]
      unfold stepU
      cases hd : doS u fs f M with
      | ok M' =>
        have := doS_grow hd
        exact ⟨rfl, this.1, this.2, by omega⟩
      | error k =>
        by_cases hk : k = 0
        · simp [hk]; omega
        · simp [hk, throwS_grow]; omega
theorem runI {u : Unt} (hu : UnitT u) : ∀ n : Nat, n ≤ 200 → RunI u n (runM u n)
  | 0, _ => by
    obtain ⟨h1, h2⟩ := newM_W hu
    exact ⟨h1, h2, by simp [runM, newM], by simp [runM, newM], by simp [runM, newM], by simp [runM, newM, faultsN]⟩
  | n + 1, hn => by
    have ih := runI hu n (by omega)
    obtain ⟨h1, h2⟩ := stepS_W hu ih.ok ih.link
    have hle := ih.le
    have hs := ih.said
    have ho := ih.objs
    show RunI u (n + 1) (stepS u (runM u n))
    rcases stepS_grow (u := u) (M := runM u n) with ⟨e, hx⟩ | ⟨e1, e2, e3, e4⟩
    · rw [e]
      refine ⟨ih.ok, ih.link, by omega, fun hf => ?_, hs, ho⟩
      have heq := ih.eq hf
      have hst := ih.ok.steps
      have hfr : (runM u n).frames ≠ [] := by
        rcases ih.ok.fin with h1 | h1 | h1
        · exact h1.2.1
        · omega
        · omega
      rcases hx with hx | hx | hx | hx | hx
      · exact absurd hf hx
      · omega
      · omega
      · omega
      · exact absurd hx hfr
    · have heq := ih.eq e4
      exact ⟨h1, h2, by omega, fun _ => by omega, by omega, by omega⟩
end Go.Proofs
namespace Go.Proofs
open Go.Vc
set_option maxRecDepth 100000
set_option maxHeartbeats 4000000
def emptyM : Mch := ⟨[], [], [], 0, 0, noVl⟩
def RunP (u : Unt) (steps : Int) : Prop := UnitT u ∧ 0 ≤ steps ∧ steps ≤ 200
def IsRun (u : Unt) (steps : Int) (R : Mch) : Prop := (RunP u steps → R = runM u steps.toNat) ∧ (¬ RunP u steps → R = emptyM)
theorem isRun_ex (u : Unt) (steps : Int) : ∃ R, IsRun u steps R := by
  by_cases h : RunP u steps
  · exact ⟨runM u steps.toNat, fun _ => rfl, fun hn => absurd h hn⟩
  · exact ⟨emptyM, fun hp => absurd hp h, fun _ => rfl⟩
theorem emptyM_own (h : Heap) : OwnM h [.slice none 0 0, .slice none 0 0, .slice none 0 0, .int .i64 0, .int .i64 0, .bool false, .int .i64 0] emptyM [] :=
  ⟨_, _, _, [], [], [], rfl, ⟨[], [], [], ⟨by simp, .inl ⟨rfl, rfl, rfl⟩⟩, .nil, rfl⟩, ⟨[], [], [], ⟨by simp, .inl ⟨rfl, rfl, rfl⟩⟩, .nil, rfl⟩, ⟨by simp [emptyM], .inl ⟨rfl, rfl, rfl⟩⟩, rfl⟩
theorem MOk.small {u : Unt} (hT : UnitT u) {M : Mch} (h : MOk u M) : Small M := by
  refine ⟨by have := h.len; omega, by have := h.nf; omega, by have := h.nsaid; omega, fun o ho => ?_, fun f hf => ?_⟩
  · rcases (h.objs o ho).2 with ⟨_, h2⟩ | ⟨_, h2, h3⟩
    · omega
    · have := flds_len' hT.1 h2; omega
  · have hF := h.frm f hf
    have := (hT.mth hF.1).1.2.2.2.2.1
    have := hF.2.2.1
    have := hF.2.2.2.1
    omega
def OutM (h : Heap) (M : Mch) (v : Value) (h' : Heap) : Prop := h.le h' ∧ ∃ mc B, v = .agg ⟨mc⟩ ∧ OwnM h' mc M B ∧ Nd B ∧ ∀ b ∈ B, h b = none
theorem iMachRun_c (us : List Value) (u : Unt) (steps : Int) (h : Heap) (hu : UntR h us u) (R : Mch) (hIs : IsRun u steps R) : Rets Tryz.prog 17 [.agg ⟨us⟩, .int .i64 steps] h (OutM h R) := by
  have hu0 := hu
  obtain ⟨p, cc, q, d, rfl, hcs, hms, hl1, hl2⟩ := hu.form
  have hok := UnitOk_c _ u h hu0
  have bad : ¬ RunP u steps → OutM h R (.agg #[.slice none 0 0, .slice none 0 0, .slice none 0 0, .int .i64 0, .int .i64 0, .bool false, .int .i64 0]) h := fun hb => by
    rw [hIs.2 hb]
    exact ⟨Heap.le_refl h, _, [], rfl, emptyM_own h, fun _ => by simp, by simp⟩
  have good := hIs.1
  refine rets Tryz.sigOk Tryz.func17 Tryz.F17 Tryz.ok17 rfl ?_
  conv => whnf
  refine call_p hok ?_
  conv => whnf
  refine selNP (fun g1 => ?_) (fun g1 => ?_)
  all_goals conv => whnf
  · exact bad (fun hx => g1 hx.1)
  refine call_p (within_c _ _ _ _) ?_
  conv => whnf
  refine selNP (fun g2 => ?_) (fun g2 => ?_)
  all_goals conv => whnf
  · exact bad (fun hx => g2 hx.2)
  have hP : RunP u steps := ⟨g1, g2⟩
  have hR := good hP
  have h0 : 0 ≤ (0 : Int) ∧ (0 : Int) < u.methods.length := by have := g1.2.1.1; omega
  have hl0 := (g1.mth h0).1
  refine call_r (machNew_c _ u h hu0 g1.2.1.1 ⟨by have := hl0.2.2.2.2.2; omega, hl0.2.2.2.2.1⟩) (fun v h1 hh => ?_)
  refine hh.2.elim fun mc0 hh2 => hh2.elim fun B0 hh2 => ?_
  have hv := hh2.1
  subst hv
  refine hh2.2.1.msl.elim fun po0 hf => hf.elim fun co0 hf => hf.elim fun pf0 hf => hf.elim fun cf0 hf => hf.elim fun ps0 hf => hf.elim fun cs0 hf => ?_
  subst hf
  conv => whnf
  refine lps [2, 4, 5, 17, 18] [2, 4, 5] (fun s : Nat × Heap × (Option Addr × Nat) × (Option Addr × Nat) × (Option Addr × Nat) × List Nat => (s.1 : Int) ≤ steps ∧ h.le s.2.1 ∧ OwnM s.2.1 (msl s.2.2.1.1 s.2.2.1.2 s.2.2.2.1.1 s.2.2.2.1.2 s.2.2.2.2.1.1 s.2.2.2.2.1.2 (runM u s.1)) (runM u s.1) s.2.2.2.2.2 ∧ Nd s.2.2.2.2.2 ∧ ∀ b ∈ s.2.2.2.2.2, h b = none) (fun s => steps.toNat - s.1)
    (fun s => ([.l 2 0, .l 4 0, .l 5 0, .v (.int .i64 steps), .v (.int .i64 s.1)],
      [some [.slice p u.classes.length cc, .slice q u.methods.length d], some [.slice none 0 0, .slice none 0 0, .slice none 0 0, .int .i64 0, .int .i64 0, .bool false, .int .i64 0], some (msl s.2.2.1.1 s.2.2.1.2 s.2.2.2.1.1 s.2.2.2.1.2 s.2.2.2.2.1.1 s.2.2.2.2.1.2 (runM u s.1))], s.2.1))
    (0, h1, (po0, co0), (pf0, cf0), (ps0, cs0), B0) ⟨by simp; omega, hh.1, hh2.2.1, hh2.2.2⟩ rfl ?_
  rintro ⟨i, h2, ⟨po, co⟩, ⟨pf, cf⟩, ⟨ps, cs⟩, B⟩ ⟨hi, hle, own, nd, fr⟩
  simp only at hi hle own nd fr ⊢
  unfold msl mcells
  conv => whnf
  refine selP (fun g => ?_) (fun g => ?_)
  all_goals conv => whnf
  · have hI := runI g1 i (by omega)
    have hrd := own.read (hI.ok.small g1)
    refine call_r (machStep_c _ _ u (runM u i) h2 hrd (hu0.le hle) g1 (fun hf => hI.ok.stepOk g1 hf)) (fun v h3 hh => ?_)
    refine hh.2.elim fun mc3 hh3 => hh3.elim fun B3 hh3 => ?_
    have hv := hh3.1
    subst hv
    have own3 : OwnM h3 mc3 (runM u (i + 1)) B3 := hh3.2.1
    refine own3.msl.elim fun po3 hf => hf.elim fun co3 hf => hf.elim fun pf3 hf => hf.elim fun cf3 hf => hf.elim fun ps3 hf => hf.elim fun cs3 hf => ?_
    subst hf
    conv => whnf
    refine ar_in (by omega) (by omega) ?_
    conv => whnf
    exact lpn (i + 1, h3, (po3, co3), (pf3, cf3), (ps3, cs3), B3) ⟨by simp only; omega, Heap.le_trans hle hh.1, own3, hh3.2.2.1, fun b hb => free_of hle (hh3.2.2.2 b hb)⟩ (by simp only; omega) rfl
  · have hie : i = steps.toNat := by omega
    subst hie
    rw [hR]
    exact ⟨hle, _, B, rfl, own, nd, fr⟩
theorem runM_stay {u : Unt} {i : Nat} (h : (runM u i).fin ≠ 0) : ∀ k, runM u (i + k) = runM u i
  | 0 => rfl
  | k + 1 => by
    show stepS u (runM u (i + k)) = _
    rw [runM_stay h k]
    unfold stepS
    rw [if_pos (.inl h)]
theorem sMachRun_c (us : List Value) (u : Unt) (steps : Int) (h : Heap) (hu : UntR h us u) (R : Mch) (hIs : IsRun u steps R) : Rets Tryz.prog 15 [.agg ⟨us⟩, .int .i64 steps] h (OutM h R) := by
  have hu0 := hu
  obtain ⟨p, cc, q, d, rfl, hcs, hms, hl1, hl2⟩ := hu.form
  have hok := sUnitOk_c _ u h hu0
  have bad : ¬ RunP u steps → OutM h R (.agg #[.slice none 0 0, .slice none 0 0, .slice none 0 0, .int .i64 0, .int .i64 0, .bool false, .int .i64 0]) h := fun hb => by
    rw [hIs.2 hb]
    exact ⟨Heap.le_refl h, _, [], rfl, emptyM_own h, fun _ => by simp, by simp⟩
  have good := hIs.1
  refine rets Tryz.sigOk Tryz.func15 Tryz.F15 Tryz.ok15 rfl ?_
  conv => whnf
  refine call_p hok ?_
  conv => whnf
  refine selNP (fun g1 => ?_) (fun g1 => ?_)
  all_goals conv => whnf
  · exact bad (fun hx => g1 hx.1)
  refine call_p (l6In_c _ _ _ _) ?_
  conv => whnf
  refine selNP (fun g2 => ?_) (fun g2 => ?_)
  all_goals conv => whnf
  · exact bad (fun hx => g2 hx.2)
  have hP : RunP u steps := ⟨g1, g2⟩
  have hR := good hP
  refine call_r (sMachNew_c _ u h hu0 g1) (fun v h1 hh => ?_)
  refine hh.2.elim fun mc0 hh2 => hh2.elim fun B0 hh2 => ?_
  have hv := hh2.1
  subst hv
  refine hh2.2.1.msl.elim fun po0 hf => hf.elim fun co0 hf => hf.elim fun pf0 hf => hf.elim fun cf0 hf => hf.elim fun ps0 hf => hf.elim fun cs0 hf => ?_
  subst hf
  conv => whnf
  refine lps [1, 2, 4, 5, 6] [2, 4, 5] (fun s : Nat × Heap × (Option Addr × Nat) × (Option Addr × Nat) × (Option Addr × Nat) × List Nat => (s.1 : Int) ≤ steps ∧ h.le s.2.1 ∧ OwnM s.2.1 (msl s.2.2.1.1 s.2.2.1.2 s.2.2.2.1.1 s.2.2.2.1.2 s.2.2.2.2.1.1 s.2.2.2.2.1.2 (runM u s.1)) (runM u s.1) s.2.2.2.2.2 ∧ Nd s.2.2.2.2.2 ∧ ∀ b ∈ s.2.2.2.2.2, h b = none) (fun s => steps.toNat - s.1)
    (fun s => ([.v (.int .i64 steps), .l 2 0, .l 4 0, .l 5 0, .v (.int .i64 s.1)],
      [some [.slice p u.classes.length cc, .slice q u.methods.length d], some [.slice none 0 0, .slice none 0 0, .slice none 0 0, .int .i64 0, .int .i64 0, .bool false, .int .i64 0], some (msl s.2.2.1.1 s.2.2.1.2 s.2.2.2.1.1 s.2.2.2.1.2 s.2.2.2.2.1.1 s.2.2.2.2.1.2 (runM u s.1))], s.2.1))
    (0, h1, (po0, co0), (pf0, cf0), (ps0, cs0), B0) ⟨by simp; omega, hh.1, hh2.2.1, hh2.2.2⟩ rfl ?_
  rintro ⟨i, h2, ⟨po, co⟩, ⟨pf, cf⟩, ⟨ps, cs⟩, B⟩ ⟨hi, hle, own, nd, fr⟩
  simp only at hi hle own nd fr ⊢
  unfold msl mcells
  conv => whnf
  refine selP (fun g => ?_) (fun g => ?_)
  all_goals conv => whnf
  · refine selP (fun gf => ?_) (fun gf => ?_)
    all_goals conv => whnf
    · have hI := runI g1 i (by omega)
      have hrd := own.read (hI.ok.small g1)
      have hfr : ∃ fs f, (runM u i).frames = fs ++ [f] := by
        rcases List.eq_nil_or_concat (runM u i).frames with e | ⟨gs, gl, e⟩
        · rcases hI.ok.fin with h1 | h1 | h1
          · exact absurd e h1.2.1
          · omega
          · omega
        · exact ⟨gs, gl, by simpa using e⟩
      refine hfr.elim fun fs hfr => hfr.elim fun f hfr => ?_
      have hsu : stepU u fs f (runM u i) = runM u (i + 1) := by
        refine (stepS_U hfr ?_).symm
        have := hI.eq gf
        have := hI.said
        have := hI.objs
        omega
      have hstep := l14Step_c _ _ u (runM u i) h2 fs f hrd (hu0.le hle) g1 hI.ok hfr gf
      rw [hsu] at hstep
      refine call_r hstep (fun v h3 hh => ?_)
      refine hh.2.elim fun mc3 hh3 => hh3.elim fun B3 hh3 => ?_
      have hv := hh3.1
      subst hv
      have own3 : OwnM h3 mc3 (runM u (i + 1)) B3 := hh3.2.1
      refine own3.msl.elim fun po3 hf => hf.elim fun co3 hf => hf.elim fun pf3 hf => hf.elim fun cf3 hf => hf.elim fun ps3 hf => hf.elim fun cs3 hf => ?_
      subst hf
      conv => whnf
      refine ar_in (by omega) (by omega) ?_
      conv => whnf
      exact lpn (i + 1, h3, (po3, co3), (pf3, cf3), (ps3, cs3), B3) ⟨by simp only; omega, Heap.le_trans hle hh.1, own3, hh3.2.2.1, fun b hb => free_of hle (hh3.2.2.2 b hb)⟩ (by simp only; omega) rfl
    · have hst := runM_stay gf (steps.toNat - i)
      have hie : i + (steps.toNat - i) = steps.toNat := by omega
      rw [hie] at hst
      rw [hR, hst]
      exact ⟨hle, _, B, rfl, own, nd, fr⟩
  · have hie : i = steps.toNat := by omega
    subst hie
    rw [hR]
    exact ⟨hle, _, B, rfl, own, nd, fr⟩
end Go.Proofs
namespace Go.Proofs
open Go.Vc
set_option maxRecDepth 100000
set_option maxHeartbeats 4000000
abbrev T20 (n : Nat) : Prop := n ≤ 1048576
def TinyC (c : Cls) : Prop := T20 c.fields.length
def TinyS (s : Shp) : Prop := T20 s.locals.length ∧ T20 s.stack.length
structure TinyM (m : Mth) : Prop where
  args : T20 m.args.length
  code : T20 m.code.length
  shapes : T20 m.shapes.length
  each : ∀ s ∈ m.shapes, TinyS s
  catches : T20 m.catches.length
structure TinyU (u : Unt) : Prop where
  classes : T20 u.classes.length
  cls : ∀ c ∈ u.classes, TinyC c
  methods : T20 u.methods.length
  mth : ∀ m ∈ u.methods, TinyM m
def SzR (left : Int) (T : Prop) (h : Heap) (v : Value) (h' : Heap) : Prop := h = h' ∧ ∃ r : Int, v = .int .i64 r ∧ (r = -1 ∨ (0 ≤ r ∧ r ≤ left ∧ T))
def OwnCls (h : Heap) (x : List Value) (c : Cls) (B : List Nat) : Prop := ∃ v, x = [.int .i64 c.super, v] ∧ OwnI h v c.fields B
def OwnIns (_ : Heap) (x : List Value) (i : Ins) (B : List Nat) : Prop := x = [.int .i64 i.kind, .int .i64 i.a, .int .i64 i.b] ∧ B = []
def OwnCtc (_ : Heap) (x : List Value) (i : Ctc) (B : List Nat) : Prop := x = [.int .i64 i.lo, .int .i64 i.hi, .int .i64 i.to, .int .i64 i.cls] ∧ B = []
def OwnShp (h : Heap) (x : List Value) (s : Shp) (B : List Nat) : Prop := ∃ v1 v2 B1 B2, x = [.bool s.told, v1, v2] ∧ OwnI h v1 s.locals B1 ∧ OwnI h v2 s.stack B2 ∧ B = B1 ++ B2
def OwnMth (h : Heap) (x : List Value) (m : Mth) (B : List Nat) : Prop := ∃ a c s k B1 B2 B3 B4, x = [.int .i64 m.cls, .int .i64 m.sel, a, .int .i64 m.out, .int .i64 m.locals, c, s, k] ∧
  OwnI h a m.args B1 ∧ OwnL OwnIns 3 h c m.code B2 ∧ OwnL OwnShp 3 h s m.shapes B3 ∧ OwnL OwnCtc 4 h k m.catches B4 ∧ B = B1 ++ (B2 ++ (B3 ++ B4))
def OwnUnt (h : Heap) (us : List Value) (u : Unt) (B : List Nat) : Prop := ∃ c m B1 B2, us = [c, m] ∧ OwnL OwnCls 2 h c u.classes B1 ∧ OwnL OwnMth 8 h m u.methods B2 ∧ B = B1 ++ B2
theorem keptCls : Kept OwnCls := fun _ _ _ _ _ hk ⟨v, h1, h2⟩ => ⟨v, h1, h2.keep hk⟩
theorem keptIns : Kept OwnIns := fun _ _ _ _ _ _ h => h
theorem keptCtc : Kept OwnCtc := fun _ _ _ _ _ _ h => h
theorem keptShp : Kept OwnShp := fun _ _ _ _ _ hk ⟨v1, v2, B1, B2, h1, h2, h3, e⟩ => by
  subst e; exact ⟨v1, v2, B1, B2, h1, h2.keep hk.l, h3.keep hk.r, rfl⟩
theorem keptMth : Kept OwnMth := fun _ _ _ _ _ hk ⟨a, c, s, k, B1, B2, B3, B4, h1, h2, h3, h4, h5, e⟩ => by
  subst e; exact ⟨a, c, s, k, B1, B2, B3, B4, h1, h2.keep hk.l, h3.keep keptIns hk.r.l, h4.keep keptShp hk.r.r.l, h5.keep keptCtc hk.r.r.r, rfl⟩
theorem OwnUnt.keep {h h' : Heap} {us : List Value} {u : Unt} {B : List Nat} (hk : Keep h h' B) (ho : OwnUnt h us u B) : OwnUnt h' us u B := by
  obtain ⟨c, m, B1, B2, h1, h2, h3, e⟩ := ho
  subst e; exact ⟨c, m, B1, B2, h1, h2.keep keptCls hk.l, h3.keep keptMth hk.r, rfl⟩
theorem inCls : InH OwnCls := fun _ _ _ _ ⟨_, _, h2⟩ => h2.in
theorem inIns : InH OwnIns := fun _ _ _ _ h b hb => by rw [h.2] at hb; cases hb
theorem inCtc : InH OwnCtc := fun _ _ _ _ h b hb => by rw [h.2] at hb; cases hb
theorem inShp : InH OwnShp := fun _ _ _ _ ⟨_, _, _, _, _, h2, h3, e⟩ b hb => by
  subst e; exact (List.mem_append.1 hb).elim (h2.in b) (h3.in b)
theorem inMth : InH OwnMth := fun _ _ _ _ ⟨_, _, _, _, _, _, _, _, _, h2, h3, h4, h5, e⟩ b hb => by
  subst e
  rcases List.mem_append.1 hb with hb | hb
  · exact h2.in b hb
  rcases List.mem_append.1 hb with hb | hb
  · exact h3.in inIns b hb
  rcases List.mem_append.1 hb with hb | hb
  · exact h4.in inShp b hb
  · exact h5.in inCtc b hb
theorem OwnUnt.in {h : Heap} {us : List Value} {u : Unt} {B : List Nat} (ho : OwnUnt h us u B) : ∀ b ∈ B, ∃ o, h b = some o := by
  obtain ⟨_, _, _, _, _, h1, h2, e⟩ := ho
  intro b hb
  subst e; exact (List.mem_append.1 hb).elim (h1.in inCls b) (h2.in inMth b)
theorem OwnC.row {sz : Nat} {α : Type} {f : α → List Value} {Q : Heap → List Value → α → Prop} {h : Heap} {v : Value} {l : List α} {B : List Nat} (ho : OwnC sz h v (l.map f) B) (hl : l.length ≤ 140737488351232) (hq : ∀ a ∈ l, Q h (f a) a) : Row sz Q h v l := by
  obtain ⟨hx, ho⟩ := ho
  rcases ho with ⟨rfl, hn, _⟩ | ⟨b, c, rest, t, rfl, hcap, hb, hlen, _⟩
  · have : l = [] := by simpa using hn
    subst this
    exact ⟨by simp, none, 0, rfl, by simp, .inl rfl⟩
  · refine ⟨hl, _, c, by simp, by simpa using hcap, .inr ⟨b, 0, rfl, fun i x hi => ?_⟩⟩
    have hm : x ∈ l := List.mem_of_getElem? hi
    obtain ⟨hil, hix⟩ := List.getElem?_eq_some_iff.1 hi
    refine ⟨f x, ?_, hq x hm⟩
    have hsp : l.map f = (l.take i).map f ++ f x :: (l.drop (i + 1)).map f := by
      rw [← hix, ← List.map_cons, ← List.map_append, ← List.drop_eq_getElem_cons hil, List.take_append_drop]
    have hpl : ((l.take i).map f).flatten.length = i * sz := by
      rw [flat_length (sz := sz)]
      · rw [List.length_map, List.length_take, Nat.min_eq_left (by omega)]
      · intro y hy; exact hx y (by rw [hsp]; exact List.mem_append.2 (.inl hy))
    have hxl : (f x).length = sz := hx _ (List.mem_map_of_mem hm)
    rw [hsp] at hb hlen
    have := rdn_cells hb sz (0 + i * sz) (by
      simp only [List.flatten_append, List.flatten_cons, List.length_append] at hlen ⊢
      omega)
    rw [this]
    congr 1
    have e : ((List.map f (List.take i l) ++ f x :: List.map f (List.drop (i + 1) l)).flatten ++ rest) = (List.map f (List.take i l)).flatten ++ (f x ++ ((List.map f (List.drop (i + 1) l)).flatten ++ rest)) := by simp
    rw [e, Nat.zero_add, ← hpl, List.drop_left, ← hxl, List.take_left]
theorem Rows.memA {α : Type} {R : Heap → List Value → α → List Nat → Prop} {h : Heap} {xs : List (List Value)} {l : List α} {B : List Nat} (hr : Rows R h xs l B) : ∀ i (hi : i < l.length), ∃ hj : i < xs.length, ∃ C, R h xs[i] l[i] C := fun i hi => ⟨by rw [hr.len]; exact hi, hr.mem i hi _⟩
theorem OwnL.rowQ {α : Type} {R : Heap → List Value → α → List Nat → Prop} {Q : Heap → List Value → α → Prop} {sz : Nat} {h : Heap} {v : Value} {l : List α} {B : List Nat} (ho : OwnL R sz h v l B) (hl : l.length ≤ 1000000 ∨ l.length ≤ 140737488351232) (hq : ∀ x a C, a ∈ l → R h x a C → Q h x a) : Row sz Q h v l := by
  obtain ⟨xs, B0, B1, ⟨hx, ho⟩, hr, _⟩ := ho
  have hlen := hr.len
  rcases ho with ⟨rfl, hn, _⟩ | ⟨b, c, rest, t, rfl, hcap, hb, hbl, _⟩
  · subst hn
    have : l = [] := List.eq_nil_of_length_eq_zero (by simpa using hlen.symm)
    subst this
    exact ⟨by simp, none, 0, rfl, by simp, .inl rfl⟩
  · refine ⟨by omega, _, c, by rw [hlen], by omega, .inr ⟨b, 0, rfl, fun i x hi => ?_⟩⟩
    obtain ⟨hil, hix⟩ := List.getElem?_eq_some_iff.1 hi
    obtain ⟨hj, C, hR⟩ := hr.memA i hil
    have hxl : xs[i].length = sz := hx _ (List.getElem_mem _)
    refine ⟨xs[i], ?_, by subst hix; exact hq _ _ C (List.getElem_mem _) hR⟩
    have hpl : (xs.take i).flatten.length = i * sz := by
      rw [flat_length (sz := sz)]
      · rw [List.length_take, Nat.min_eq_left (by omega)]
      · intro y hy; exact hx y (List.mem_of_mem_take hy)
    have hsp : xs.flatten ++ rest = (xs.take i).flatten ++ (xs[i] ++ ((xs.drop (i + 1)).flatten ++ rest)) := by
      have e : xs = xs.take i ++ xs[i] :: xs.drop (i + 1) := by rw [← List.drop_eq_getElem_cons hj, List.take_append_drop]
      have e2 := congrArg List.flatten e
      rw [e2]
      simp only [List.flatten_append, List.flatten_cons, List.append_assoc]
    rw [hsp] at hb hbl
    have := rdn_cells hb sz (0 + i * sz) (by
      simp only [List.length_append] at hbl ⊢
      omega)
    rw [this, Nat.zero_add, ← hpl, List.drop_left, ← hxl, List.take_left]
theorem Row.all {α : Type} {size : Nat} {R : Heap → List Value → α → Prop} {h : Heap} {v : Value} {l : List α} (hr : Row size R h v l) {a : α} (ha : a ∈ l) : ∃ vs, R h vs a := by
  obtain ⟨_, p, c, _, _, h3⟩ := hr
  rcases h3 with rfl | ⟨b, off, rfl, hx⟩
  · cases ha
  · obtain ⟨i, hi⟩ := List.getElem?_of_mem ha
    obtain ⟨vs, _, h2⟩ := hx i a hi
    exact ⟨vs, h2⟩
theorem Row.short {α : Type} {size : Nat} {R : Heap → List Value → α → Prop} {h : Heap} {v : Value} {l : List α} (hr : Row size R h v l) : l.length ≤ 140737488351232 := hr.1
theorem OwnC.ints {h h0 : Heap} {v v0 : Value} {l : List Int} {B : List Nat} (ho : OwnI h v l B) (hr : Ints h0 v0 l) : Ints h v l := OwnC.row ho hr.1 fun a ha => by
  obtain ⟨_, _, h2⟩ := hr.all ha
  exact ⟨rfl, h2⟩
theorem OwnUnt.read {h h0 : Heap} {us vs : List Value} {u : Unt} {B : List Nat} (ho : OwnUnt h us u B) (hr : UntR h0 vs u) : UntR h us u := by
  obtain ⟨c, m, B1, B2, e, h1, h2, _⟩ := ho
  obtain ⟨c0, m0, _, r1, r2⟩ := hr
  refine ⟨c, m, e, h1.rowQ (.inr r1.1) fun x a C ha hR => ?_, h2.rowQ (.inr r2.1) fun x a C ha hR => ?_⟩
  · obtain ⟨vs, f, _, i1, i2⟩ := r1.all ha
    obtain ⟨v, e, o⟩ := hR
    exact ⟨v, e, i1, o.ints i2⟩
  · obtain ⟨vs, a0, c0, s0, k0, _, i1, i2, i3, i4, i5, i6, i7, i8⟩ := r2.all ha
    obtain ⟨a', c', s', k', _, _, _, _, e, o1, o2, o3, o4, _⟩ := hR
    refine ⟨a', c', s', k', e, i1, i2, i3, i4, o1.ints i5, o2.rowQ (.inr i6.1) fun x b C hb hR => ?_, o3.rowQ (.inr i7.1) fun x b C hb hR => ?_, o4.rowQ (.inr i8.1) fun x b C hb hR => ?_⟩
    · obtain ⟨_, _, j⟩ := i6.all hb
      exact ⟨hR.1, j⟩
    · obtain ⟨_, l0, k0, _, j1, j2⟩ := i7.all hb
      obtain ⟨v1, v2, _, _, e, q1, q2, _⟩ := hR
      exact ⟨v1, v2, e, q1.ints j1, q2.ints j2⟩
    · obtain ⟨_, _, j⟩ := i8.all hb
      exact ⟨hR.1, j⟩
structure Fill {α : Type} (R : Heap → List Value → α → List Nat → Prop) (sz : Nat) (zero : List Value) (h0 h : Heap) (b n : Nat) (l : List α) (B : List Nat) : Prop where
  le : h0.le h
  row : ∃ xs t, (∀ x ∈ xs, x.length = sz) ∧ h b = some (.cells (xs.flatten ++ (List.replicate (n - l.length) zero).flatten).toArray t (0, 0)) ∧ Rows R h xs l B
  len : l.length ≤ n
  nd : Nd (b :: B)
  fr : ∀ c ∈ b :: B, h0 c = none
theorem Fill.start {α : Type} {R : Heap → List Value → α → List Nat → Prop} {sz : Nat} {zero : List Value} {h h1 : Heap} {b n : Nat} {t : TypeId} (hb : h b = none) (he : h1 = h.set b (.cells (List.replicate n zero).flatten.toArray t)) : Fill R sz zero h h1 b n [] [] := by
  subst he
  exact ⟨Heap.le_set_free (Heap.le_refl h) hb, ⟨[], t, by simp, by simp [Heap.set], .nil⟩, by simp, fun a => by simp only [List.count_cons, List.count_nil]; split <;> omega, by simpa using hb⟩
theorem Fill.at {α : Type} {R : Heap → List Value → α → List Nat → Prop} {sz : Nat} {zero : List Value} {h0 h : Heap} {b n : Nat} {l : List α} {B : List Nat} (hF : Fill R sz zero h0 h b n l B) : ∃ o, h b = some o := by
  obtain ⟨_, _, _, h1, _⟩ := hF.row; exact ⟨_, h1⟩
theorem Fill.own {α : Type} {R : Heap → List Value → α → List Nat → Prop} {sz : Nat} {zero : List Value} {h0 h : Heap} {b n : Nat} {l : List α} {B : List Nat} (hF : Fill R sz zero h0 h b n l B) (hn : l.length = n) : OwnL R sz h (.slice (some ⟨b, 0, none⟩) n n) l ([b] ++ B) := by
  obtain ⟨xs, t, h1, h2, h3⟩ := hF.row
  have hl := h3.len
  subst hn
  refine ⟨xs, [b], B, ⟨h1, .inr ⟨b, l.length, [], t, by rw [hl], by omega, by simpa using h2, ?_, rfl⟩⟩, h3, rfl⟩
  rw [List.append_nil, flat_length h1, hl]
theorem Fill.st {α : Type} {R : Heap → List Value → α → List Nat → Prop} (hR : Kept R) (hI : InH R) {sz : Nat} {zero : List Value} {h0 h h1 : Heap} {b n off : Nat} {l : List α} {a : α} {B Bi : List Nat} {x : List Value} {K : Heap → Prop}
    (hF : Fill R sz zero h0 h b n l B) (hl : h.le h1) (hx : R h1 x a Bi) (hn : Nd Bi) (hf : ∀ c ∈ Bi, h c = none) (hlt : l.length < n) (hxl : x.length = sz) (hz : zero.length = sz) (ho : off = l.length * sz)
    (hk : ∀ h', Fill R sz zero h0 h' b n (l ++ [a]) (B ++ Bi) → K h') : St h1 b off x K := by
  obtain ⟨xs, t, g1, g2, g3⟩ := hF.row
  have hlen := g3.len
  have hfl := flat_length g1
  have g2' := hl _ _ g2
  refine Go.Vc.st (cs := xs.flatten ++ (List.replicate (n - l.length) zero).flatten) g2' ?_ ?_
  · have hm : (l.length + 1) * sz ≤ n * sz := Nat.mul_le_mul_right sz (by omega)
    rw [List.length_append, hfl, flat_len, hz, hxl, ho, hlen, ← Nat.add_mul, show l.length + (n - l.length) = n by omega]
    rw [Nat.succ_mul] at hm
    exact hm
  have hw : wrls (xs.flatten ++ (List.replicate (n - l.length) zero).flatten) off x = (xs ++ [x]).flatten ++ (List.replicate (n - (l ++ [a]).length) zero).flatten := by
    have hoff : off = xs.flatten.length := by rw [hfl, ho, hlen]
    have hge : x.length ≤ (List.replicate (n - l.length) zero).flatten.length := by
      rw [flat_len, hz, hxl]; exact Nat.le_mul_of_pos_left _ (by omega)
    rw [hoff, wrls_app _ _ _ hge]
    have : (List.replicate (n - l.length) zero).flatten.drop x.length = (List.replicate (n - (l ++ [a]).length) zero).flatten := by
      rw [show n - l.length = (n - (l ++ [a]).length) + 1 by simp; omega, List.replicate_succ, List.flatten_cons, hxl, ← hz, List.drop_left]
    rw [this]; simp
  refine hk _ ⟨?_, ⟨xs ++ [x], t, ?_, ?_, ?_⟩, by simp; omega, ?_, ?_⟩
  · exact Heap.le_set_free (Heap.le_trans hF.le hl) (hF.fr b (by simp))
  · intro y hy
    rcases List.mem_append.1 hy with hy | hy
    · exact g1 y hy
    · rw [List.mem_singleton.1 hy]; exact hxl
  · rw [← hw]; simp [Heap.set]
  · have hbB : b ∉ B := by
      intro hm
      have h1 := hF.nd b
      have h2 := List.count_pos_iff.2 hm
      simp only [List.count_cons, beq_self_eq_true, if_true] at h1
      omega
    have hbi : b ∉ Bi := fun hm => by rw [hf b hm] at g2; cases g2
    have kp : ∀ A : List Nat, b ∉ A → Keep h1 (h1.set b (.cells (wrls (xs.flatten ++ (List.replicate (n - l.length) zero).flatten) off x).toArray t (0, 0))) A := by
      intro A hA c hc o ho
      have : c ≠ b := by rintro rfl; exact hA hc
      simp only [Heap.set, this, if_false]; exact ho
    exact ((g3.keep hR (Keep.of_le hl B)).keep hR (kp B hbB)).app (Rows.one (hR _ _ _ _ _ (kp Bi hbi) hx))
  · rw [← List.cons_append]
    refine Nd.two hF.nd hn fun c hc hm => ?_
    have : ∃ o, h c = some o := by
      rcases List.mem_cons.1 hm with rfl | hm
      · exact ⟨_, g2⟩
      · exact g3.in hI c hm
    obtain ⟨o, ho⟩ := this
    rw [hf c hc] at ho; cases ho
  · intro c hc
    rw [← List.cons_append] at hc
    rcases List.mem_append.1 hc with hc | hc
    · exact hF.fr c hc
    · exact free_of hF.le (hf c hc)
theorem take_all {α : Type} {Q : α → Prop} {l : List α} {i : Nat} (h : ∀ a ∈ l.take i, Q a) (hi : i < l.length) (hq : Q l[i]) : ∀ a ∈ l.take (i + 1), Q a := by
  intro a ha
  rw [← List.take_append_getElem hi] at ha
  rcases List.mem_append.1 ha with ha | ha
  · exact h a ha
  · rw [List.mem_singleton.1 ha]; exact hq
def ToR {α : Type} (O : Heap → Value → α → List Nat → Prop) (a : α) (h : Heap) (v : Value) (h' : Heap) : Prop := h.le h' ∧ ∃ B, O h' v a B ∧ Nd B ∧ ∀ b ∈ B, h b = none
def Agg {α : Type} (R : Heap → List Value → α → List Nat → Prop) (h : Heap) (v : Value) (a : α) (B : List Nat) : Prop := ∃ x, v = .agg ⟨x⟩ ∧ R h x a B
theorem Fill.next {α : Type} {R : Heap → List Value → α → List Nat → Prop} {sz : Nat} {zero : List Value} {h0 h : Heap} {b n i : Nat} {l : List α} {B : List Nat} (hi : i < l.length) (hF : Fill R sz zero h0 h b n (l.take i ++ [l[i]]) B) : Fill R sz zero h0 h b n (l.take (i + 1)) B := by
  rw [← List.take_append_getElem hi]; exact hF
theorem Fill.toR {α : Type} {R : Heap → List Value → α → List Nat → Prop} {sz : Nat} {zero : List Value} {h0 h : Heap} {b i : Nat} {l : List α} {B : List Nat} (hF : Fill R sz zero h0 h b l.length (l.take i) B) (hi : l.length ≤ i) : ToR (OwnL R sz) l h0 (.slice (some ⟨b, 0, none⟩) l.length l.length) h := by
  rw [List.take_of_length_le hi] at hF
  exact ⟨hF.le, [b] ++ B, hF.own rfl, hF.nd, hF.fr⟩
theorem Fill.toI {zero : List Value} {h0 h : Heap} {b i : Nat} {l : List Int} {B : List Nat} (hF : Fill OwnN 1 zero h0 h b l.length (l.take i) B) (hi : l.length ≤ i) : ToR OwnI l h0 (.slice (some ⟨b, 0, none⟩) l.length l.length) h := by
  obtain ⟨h1, B', h2, h3⟩ := hF.toR hi
  exact ⟨h1, B', said_own h2, h3⟩
structure Nw (h h' : Heap) (B : List Nat) : Prop where
  le : h.le h'
  nd : Nd B
  fr : ∀ b ∈ B, h b = none
  inn : ∀ b ∈ B, ∃ o, h' b = some o
theorem Nw.trans {h h1 h2 : Heap} {A B : List Nat} (a : Nw h h1 A) (b : Nw h1 h2 B) : Nw h h2 (A ++ B) where
  le := Heap.le_trans a.le b.le
  nd := Nd.two a.nd b.nd fun c hc hm => by
    obtain ⟨o, ho⟩ := a.inn c hm
    rw [b.fr c hc] at ho; cases ho
  fr c hc := by
    rcases List.mem_append.1 hc with hc | hc
    · exact a.fr c hc
    · exact free_of a.le (b.fr c hc)
  inn c hc := by
    rcases List.mem_append.1 hc with hc | hc
    · obtain ⟨o, ho⟩ := a.inn c hc
      exact ⟨o, b.le _ _ ho⟩
    · exact b.inn c hc
theorem Nw.dis {h h1 h2 : Heap} {A B : List Nat} (a : Nw h h1 A) (b : Nw h1 h2 B) : ∀ c ∈ B, c ∉ A := fun c hc hm => by
  obtain ⟨o, ho⟩ := a.inn c hm
  rw [b.fr c hc] at ho; cases ho
theorem Fill.nil {h : Heap} : Nd ([] : List Nat) ∧ ∀ c ∈ ([] : List Nat), h c = none := ⟨fun _ => by simp, by simp⟩
theorem Row.mono {α : Type} {sz : Nat} {R Q : Heap → List Value → α → Prop} {h : Heap} {v : Value} {l : List α} (hr : Row sz R h v l) (hq : ∀ vs x, R h vs x → Q h vs x) : Row sz Q h v l := by
  obtain ⟨h1, p, c, e, h2, h3⟩ := hr
  refine ⟨h1, p, c, e, h2, h3.imp id ?_⟩
  rintro ⟨b, off, rfl, hx⟩
  exact ⟨b, off, rfl, fun i x hi => by
    obtain ⟨vs, a1, a2⟩ := hx i x hi
    exact ⟨vs, a1, hq _ _ a2⟩⟩
def IntQ (_ : Heap) (vs : List Value) (x : Int) : Prop := vs = [.int .i64 x]
def VlQ (_ : Heap) (vs : List Value) (x : Vl) : Prop := vs = [.bool x.ref, .int .i64 x.n]
def ObQ (h : Heap) (vs : List Value) (o : Ob) : Prop := ∃ v, vs = [.int .i64 o.cls, v] ∧ Row 2 VlQ h v o.vals
def FrmQ (h : Heap) (vs : List Value) (f : Frm) : Prop := ∃ v1 v2, vs = [.int .i64 f.meth, .int .i64 f.pc, v1, v2] ∧ Row 2 VlQ h v1 f.locals ∧ Row 2 VlQ h v2 f.stack
def MchQ (h : Heap) (mc : List Value) (M : Mch) : Prop := ∃ vo vf vs, mc = mcells vo vf vs M ∧ Row 2 ObQ h vo M.objs ∧ Row 4 FrmQ h vf M.frames ∧ Row 1 IntQ h vs M.said
theorem intQ {h : Heap} {v : Value} {l : List Int} (hr : Ints h v l) : Row 1 IntQ h v l := hr.mono fun _ _ h => h.1
theorem ownQ_ints {h : Heap} {v : Value} {l : List Int} {B : List Nat} (ho : OwnI h v l B) (hl : l.length ≤ 140737488351232) : Row 1 IntQ h v l := OwnC.row ho hl fun _ _ => rfl
theorem ownQ_vals {h : Heap} {v : Value} {l : List Vl} {B : List Nat} (ho : OwnV h v l B) (hl : l.length ≤ 140737488351232) : Row 2 VlQ h v l := OwnC.row ho hl fun _ _ => rfl
def TinyO (o : Ob) : Prop := T20 o.vals.length
def TinyF (f : Frm) : Prop := T20 f.locals.length ∧ T20 f.stack.length
structure TinyN (M : Mch) : Prop where
  objs : T20 M.objs.length
  ob : ∀ o ∈ M.objs, TinyO o
  frames : T20 M.frames.length
  fr : ∀ f ∈ M.frames, TinyF f
  said : T20 M.said.length
theorem Small.tiny {M : Mch} (h : Small M) : TinyN M := by
  obtain ⟨h1, h2, h3, h4, h5⟩ := h
  refine ⟨by unfold T20; omega, fun o ho => by have := h4 o ho; unfold TinyO T20; omega, by unfold T20; omega, fun f hf => by have := h5 f hf; unfold TinyF T20; omega, by unfold T20; omega⟩
theorem OwnM.readQ {h : Heap} {mc : List Value} {M : Mch} {B : List Nat} (ho : OwnM h mc M B) (hs : TinyN M) : MchQ h mc M := by
  obtain ⟨vo, vf, vs, _, _, _, e, h1, h2, h3, _⟩ := ho
  refine ⟨vo, vf, vs, e, h1.rowQ (.inr (by have := hs.objs; omega)) fun x a C ha hR => ?_, h2.rowQ (.inr (by have := hs.frames; omega)) fun x a C ha hR => ?_, ownQ_ints h3 (by have := hs.said; omega)⟩
  · obtain ⟨v, e, o⟩ := hR
    exact ⟨v, e, ownQ_vals o (by have := hs.ob a ha; unfold TinyO at this; omega)⟩
  · obtain ⟨v1, v2, _, _, e, o1, o2, _⟩ := hR
    have := hs.fr a ha
    unfold TinyF at this
    exact ⟨v1, v2, e, ownQ_vals o1 (by omega), ownQ_vals o2 (by omega)⟩
inductive HeldL {α : Type} (H : Int → α → Int → Prop) : Int → List α → Int → Prop where
  | nil {k : Int} : HeldL H k [] k
  | cons {k k1 k2 : Int} {a : α} {l : List α} (h1 : H k a k1) (h2 : HeldL H k1 l k2) : HeldL H k (a :: l) k2
theorem HeldL.snoc {α : Type} {H : Int → α → Int → Prop} {k k1 k2 : Int} {l : List α} {a : α} (hl : HeldL H k l k1) (ha : H k1 a k2) : HeldL H k (l ++ [a]) k2 := by
  induction hl with
  | nil => exact .cons ha .nil
  | cons h1 _ ih => exact .cons h1 (ih ha)
theorem HeldL.head {α : Type} {H : Int → α → Int → Prop} {k k2 : Int} {l : List α} {i : Nat} (hl : HeldL H k (l.drop i) k2) (hi : i < l.length) : ∃ k1, H k l[i] k1 ∧ HeldL H k1 (l.drop (i + 1)) k2 := by
  rw [List.drop_eq_getElem_cons hi] at hl
  cases hl with
  | cons h1 h2 => exact ⟨_, h1, h2⟩
theorem HeldL.done {α : Type} {H : Int → α → Int → Prop} {k k2 : Int} {l : List α} {i : Nat} (hl : HeldL H k (l.drop i) k2) (hi : l.length ≤ i) : k = k2 := by
  rw [List.drop_eq_nil_of_le hi] at hl
  cases hl; rfl
theorem HeldL.le {α : Type} {H : Int → α → Int → Prop} (hm : ∀ k a k', H k a k' → k ≤ k') {k k2 : Int} {l : List α} (hl : HeldL H k l k2) : k ≤ k2 := by
  induction hl with
  | nil => omega
  | cons h1 _ ih => have := hm _ _ _ h1; omega
def Nil {α : Type} (_ : Int) (_ : α) (_ : Int) : Prop := True
def Any {α : Type} (_ : α) : Prop := True
def OwnVl (_ : Heap) (x : List Value) (a : Vl) (B : List Nat) : Prop := x = [.bool a.ref, .int .i64 a.n] ∧ B = []
theorem keptVl : Kept OwnVl := fun _ _ _ _ _ _ h => h
theorem rowsVl {h : Heap} : ∀ l : List Vl, Rows OwnVl h (l.map vl2) l []
  | [] => .nil
  | a :: l => by
    have := Rows.cons (R := OwnVl) (h := h) (x := vl2 a) (a := a) (B1 := []) ⟨rfl, rfl⟩ (rowsVl l)
    simpa using this
theorem own_vals {h : Heap} {v : Value} {l : List Vl} {B : List Nat} (ho : OwnV h v l B) : OwnL OwnVl 2 h v l B := ⟨_, B, [], ho, rowsVl l, by simp⟩
theorem rowsVl_inv {h : Heap} {xs : List (List Value)} {l : List Vl} {B : List Nat} (hr : Rows OwnVl h xs l B) : xs = l.map vl2 ∧ B = [] := by
  induction hr with
  | nil => exact ⟨rfl, rfl⟩
  | cons h1 _ ih =>
    obtain ⟨rfl, rfl⟩ := h1
    obtain ⟨rfl, rfl⟩ := ih
    exact ⟨rfl, rfl⟩
theorem vals_own {h : Heap} {v : Value} {l : List Vl} {B : List Nat} (ho : OwnL OwnVl 2 h v l B) : OwnV h v l B := by
  obtain ⟨xs, B0, B1, h1, h2, rfl⟩ := ho
  obtain ⟨rfl, rfl⟩ := rowsVl_inv h2
  simpa using h1
def HeldI (k a k' : Int) : Prop := a = k ∧ k' = k + 1
def mark3 (k : Int) : Bool := decide (k.tmod 3 = 0)
def HeldVl (k : Int) (a : Vl) (k' : Int) : Prop := a.ref = mark3 k ∧ a.n = k + 1 ∧ k' = k + 1 + 1
def HeldOb (k : Int) (a : Ob) (k' : Int) : Prop := a.cls = k ∧ HeldL HeldVl (k + 1) a.vals k'
def HeldFr (k : Int) (a : Frm) (k' : Int) : Prop := a.meth = k ∧ a.pc = k + 1 ∧ ∃ k1, HeldL HeldVl (k + 1 + 1) a.locals k1 ∧ HeldL HeldVl k1 a.stack k'
def HeldM (k : Int) (M : Mch) (k' : Int) : Prop := ∃ k1 k2, HeldL HeldOb k M.objs k1 ∧ HeldL HeldFr k1 M.frames k2 ∧ HeldL HeldI k2 M.said k'
theorem HeldI.le {k a k' : Int} (h : HeldI k a k') : k ≤ k' := by have := h.2; omega
theorem HeldVl.le {k k' : Int} {a : Vl} (h : HeldVl k a k') : k ≤ k' := by have := h.2.2; omega
theorem HeldOb.le {k k' : Int} {a : Ob} (h : HeldOb k a k') : k ≤ k' := by have := h.2.le (fun _ _ _ h => HeldVl.le h); omega
theorem HeldFr.le {k k' : Int} {a : Frm} (h : HeldFr k a k') : k ≤ k' := by
  obtain ⟨_, _, k1, h1, h2⟩ := h
  have := h1.le (fun _ _ _ h => HeldVl.le h)
  have := h2.le (fun _ _ _ h => HeldVl.le h)
  omega
def MarkR {α : Type} (O : Heap → α → List Nat → Prop) (H : Int → α → Int → Prop) (k : Int) (most : Int) (B : List Nat) (h : Heap) (v : Value) (h' : Heap) : Prop :=
  ∃ (a' : α) (k' : Int), v = .int .i64 k' ∧ k ≤ k' ∧ k' ≤ k + most ∧ O h' a' B ∧ H k a' k' ∧ Ev h h' B B
structure Cur (h0 h : Heap) (b : Nat) (pre post : List Value) (t : TypeId) (x : List Value) (Bi : List Nat) : Prop where
  cell : h b = some (.cells (pre ++ x ++ post).toArray t (0, 0))
  ev : Ev h0 h (b :: Bi) (b :: Bi)
theorem Cur.start {h : Heap} {b : Nat} {pre post : List Value} {t : TypeId} {x : List Value} {Bi : List Nat} (hb : h b = some (.cells (pre ++ x ++ post).toArray t (0, 0))) : Cur h h b pre post t x Bi := ⟨hb, Ev.refl h _⟩
theorem keep_set {h : Heap} {b : Nat} {o : Obj} {A : List Nat} (hA : b ∉ A) : Keep h (h.set b o) A := fun c hc o' ho => by
  have : c ≠ b := by rintro rfl; exact hA hc
  simp only [Heap.set, this, if_false]; exact ho
theorem Cur.st {h0 h : Heap} {b off : Nat} {pre post : List Value} {t : TypeId} {x : List Value} {Bi : List Nat} {v : Value} {K : Heap → Prop} (hc : Cur h0 h b pre post t x Bi) {i : Nat} (hn : off = pre.length + i) (hi : i < x.length)
    (hk : ∀ h', Cur h0 h' b pre post t (x.set i v) Bi → (∀ A, b ∉ A → Keep h h' A) → K h') : St h b off [v] K :=
  st1 hc.cell hn hi (hk _ ⟨by simp [Heap.set], hc.ev.trans ⟨fun c _ hs => by
    have : c ≠ b := fun e => hs (by simp [e])
    simp [Heap.set, this], fun c hc => .inl hc⟩⟩ fun A hA => keep_set hA)
theorem Cur.call {h0 h h' : Heap} {b : Nat} {pre post : List Value} {t : TypeId} {x : List Value} {Bi A : List Nat} (hc : Cur h0 h b pre post t x Bi) (ev : Ev h h' A A) (hb : b ∉ A) (hA : ∀ c ∈ A, c ∈ Bi) : Cur h0 h' b pre post t x Bi :=
  ⟨by rw [ev.old b (by rw [hc.cell]; simp) hb]; exact hc.cell, hc.ev.trans ⟨fun c hn hs => ev.old c hn fun hx => hs (List.mem_cons_of_mem _ (hA c hx)), fun c hc => .inl hc⟩⟩
theorem Nd.dis {A B : List Nat} (h : Nd (A ++ B)) : ∀ b ∈ A, b ∉ B := fun b ha hb => by
  have h1 := h b
  have h2 := List.count_pos_iff.2 ha
  have h3 := List.count_pos_iff.2 hb
  simp only [List.count_append] at h1
  omega
theorem Nd.left {A B : List Nat} (h : Nd (A ++ B)) : Nd A := fun a => by have := h a; simp only [List.count_append] at this; omega
theorem Nd.right {A B : List Nat} (h : Nd (A ++ B)) : Nd B := fun a => by have := h a; simp only [List.count_append] at this; omega
theorem Nd.head {b : Nat} {B : List Nat} (h : Nd (b :: B)) : b ∉ B := fun hb => by
  have h1 := h b
  have h3 := List.count_pos_iff.2 hb
  simp only [List.count_cons, beq_self_eq_true, if_true] at h1
  omega
theorem Nd.tail {b : Nat} {B : List Nat} (h : Nd (b :: B)) : Nd B := fun a => by have := h a; simp only [List.count_cons] at this; omega
theorem OwnL.at' {α : Type} {R : Heap → List Value → α → List Nat → Prop} (hR : Kept R) {sz : Nat} {h : Heap} {v : Value} {l1 l2 : List α} {a : α} {B : List Nat} (ho : OwnL R sz h v (l1 ++ a :: l2) B) :
    ∃ b c x pre post t Bo Bi, v = .slice (some ⟨b, 0, none⟩) (l1.length + l2.length + 1) c ∧ h b = some (.cells (pre ++ x ++ post).toArray t (0, 0)) ∧ pre.length = l1.length * sz ∧ x.length = sz ∧ R h x a Bi ∧
      (∀ n, B.count n = (b :: Bo ++ Bi).count n) ∧
      ∀ h' x' a', h' b = some (.cells (pre ++ x' ++ post).toArray t (0, 0)) → x'.length = sz → R h' x' a' Bi → Keep h h' Bo → OwnL R sz h' v (l1 ++ a' :: l2) B := by
  obtain ⟨xs, B0, B1, ⟨hx, hc⟩, h2, rfl⟩ := ho
  obtain ⟨ys, zs, A, C, rfl, rfl, h3, h4⟩ := Rows.split h2
  cases h4 with
  | @cons x _ Bi zs _ C h5 h6 =>
  have hl1 := h3.len
  have hl2 := h6.len
  rcases hc with ⟨_, hn, _⟩ | ⟨b, c, rest, t, rfl, hcap, hb, hlen, rfl⟩
  · simp at hn
  refine ⟨b, c, x, ys.flatten, zs.flatten ++ rest, t, A ++ C, Bi, ?_, ?_, ?_, hx x (by simp), h5, ?_, ?_⟩
  · simp [hl1, hl2]; omega
  · rw [hb]; simp
  · rw [flat_length (sz := sz) (fun y hy => hx y (by simp [hy])), hl1]
  · intro n; simp [List.count_append, List.count_cons]; omega
  · intro h' x' a' hb' hx' hR' hk
    refine ⟨ys ++ x' :: zs, [b], A ++ (Bi ++ C), ⟨?_, .inr ⟨b, c, rest, t, by simp, by simpa using hcap, by rw [hb']; simp, ?_, rfl⟩⟩, (h3.keep hR hk.l).app (.cons hR' (h6.keep hR hk.r)), rfl⟩
    · intro y hy
      simp only [List.mem_append, List.mem_cons] at hy
      rcases hy with hy | rfl | hy
      · exact hx y (by simp [hy])
      · exact hx'
      · exact hx y (by simp [hy])
    · have := hx x (by simp)
      simp only [List.flatten_append, List.flatten_cons, List.length_append] at hlen ⊢
      omega
structure Mk {α : Type} (R : Heap → List Value → α → List Nat → Prop) (sz : Nat) (H : Int → α → Int → Prop) (h0 h : Heap) (v : Value) (k0 : Int) (l1 : List α) (k : Int) (l2 : List α) (B : List Nat) : Prop where
  own : OwnL R sz h v (l1 ++ l2) B
  ev : Ev h0 h B B
  held : HeldL H k0 l1 k
theorem Mk.start {α : Type} {R : Heap → List Value → α → List Nat → Prop} {sz : Nat} {H : Int → α → Int → Prop} {h : Heap} {v : Value} {k : Int} {l : List α} {B : List Nat} (ho : OwnL R sz h v l B) : Mk R sz H h h v k [] k l B :=
  ⟨ho, Ev.refl h B, .nil⟩
theorem Mk.at {α : Type} {R : Heap → List Value → α → List Nat → Prop} (hR : Kept R) {sz : Nat} {H : Int → α → Int → Prop} {h0 h : Heap} {v : Value} {k0 : Int} {l1 : List α} {k : Int} {a : α} {l2 : List α} {B : List Nat} (hM : Mk R sz H h0 h v k0 l1 k (a :: l2) B) (nd : Nd B) :
    ∃ b c x pre post t Bi, v = .slice (some ⟨b, 0, none⟩) (l1.length + l2.length + 1) c ∧ Cur h h b pre post t x Bi ∧ pre.length = l1.length * sz ∧ x.length = sz ∧ R h x a Bi ∧ b ∉ Bi ∧ Nd Bi ∧
      ∀ h' x' a' k', Cur h h' b pre post t x' Bi → x'.length = sz → R h' x' a' Bi → H k a' k' → Mk R sz H h0 h' v k0 (l1 ++ [a']) k' l2 B := by
  obtain ⟨ho, ev, held⟩ := hM
  obtain ⟨b, c, x, pre, post, t, Bo, Bi, e, hb, hp, hx, hR1, hc2, reb⟩ := ho.at' hR
  have hnd : Nd (b :: (Bo ++ Bi)) := fun n => by have := nd n; rw [hc2 n] at this; exact this
  have hbi : b ∉ Bi := fun hm => hnd.head (by simp [hm])
  have hbo : b ∉ Bo := fun hm => hnd.head (by simp [hm])
  have hmem : ∀ c, c ∈ b :: Bi → c ∈ B := by
    intro c hc
    have h1 := List.count_pos_iff.2 hc
    refine List.count_pos_iff.1 ?_
    rw [hc2 c]
    simp only [List.cons_append, List.count_cons, List.count_append] at h1 ⊢
    omega
  refine ⟨b, c, x, pre, post, t, Bi, e, .start hb, hp, hx, hR1, hbi, hnd.tail.right, fun h' x' a' k' hc hx' hR' hH => ?_⟩
  have kp : Keep h h' Bo := hc.ev.keep fun c hcm hm => by
    rcases List.mem_cons.1 hm with rfl | hm
    · exact hbo hcm
    · exact hnd.tail.dis c hcm hm
  have o2 := reb h' x' a' hc.cell hx' hR' kp
  exact ⟨by simpa using o2, ev.trans ⟨fun c hn hs => hc.ev.old c hn fun hm => hs (hmem c hm), fun c hc => .inl hc⟩, held.snoc hH⟩
end Go.Proofs
