/- Part 4 of the lemmas on which the law rests: what functions of the program and of the reference do; no conditions but those that each lemma states. -/
import Derived.Test.YtcaoejkpbmiklaaGreatMg3
namespace Go.Proofs
open Go.Vc
set_option maxRecDepth 100000
set_option maxHeartbeats 4000000
theorem l3Catch_c (us ms : List Value) (u : Unt) (m : Mth) (c : Ctc) (h : Heap) (hu : UntR h us u) (hm : MthR h ms m) (ok : CsOk u.classes) (hx : I64 c.lo ∧ I64 c.hi ∧ I64 c.to ∧ I64 c.cls) :
    Pure Tryz.prog 130 [.agg ⟨us⟩, .agg ⟨ms⟩, .agg #[.int .i64 c.lo, .int .i64 c.hi, .int .i64 c.to, .int .i64 c.cls]] h (tf (CatchT u m c)) := by
  obtain ⟨p, cc, q, d, rfl, hcs, hms, hl1, hl2⟩ := hu.form
  obtain ⟨p1, c1, p2, c2, p3, c3, p4, c4, rfl, h1, h2, h3, h4, h5, h6, h7, h8, b1, b2, b3, b4⟩ := hm.form
  refine pur Tryz.sigOk Tryz.func130 Tryz.F130 Tryz.ok130 rfl ?_
  conv => whnf
  repeat' ((first | refine selP (fun _ => ?_) (fun _ => ?_) | refine selNP (fun _ => ?_) (fun _ => ?_) | refine selB (fun _ => ?_) (fun _ => ?_) | refine selNB (fun _ => ?_) (fun _ => ?_) | refine call_p (l6In_c _ _ _ _) ?_ | refine call_p (l2Up_c _ _ _ _ _ _ _ hcs ok (by omega) (by omega) (by omega)) ?_ | refine ob (by omega) ?_ | refine ar_in (by omega) (by omega) ?_ | refine ptr ?_) <;> conv => whnf)
  all_goals first
    | exact ⟨leafF (by unfold CatchT; omega), rfl⟩
    | skip
  all_goals refine ⟨?_, rfl⟩
  all_goals first
    | (cases hup : up u.classes c.cls 1 with
      | true => exact leafT ⟨by omega, by omega, by omega, hup⟩
      | false => exact leafF (fun hy => by rw [hy.2.2.2] at hup; cases hup))
theorem l3Same_c (ms ns : List Value) (m n : Mth) (h : Heap) (hm : MthR h ms m) (hn : MthR h ns n) :
    Pure Tryz.prog 132 [.agg ⟨ms⟩, .agg ⟨ns⟩] h (tf (m.out = n.out ∧ m.args = n.args)) := by
  obtain ⟨p1, c1, p2, c2, p3, c3, p4, c4, rfl, h1, h2, h3, h4, h5, h6, h7, h8, b1, b2, b3, b4⟩ := hm.form
  obtain ⟨p1', c1', p2', c2', p3', c3', p4', c4', rfl, k1, k2, k3, k4, k5, k6, k7, k8, d1, d2, d3, d4⟩ := hn.form
  refine pur Tryz.sigOk Tryz.func132 Tryz.F132 Tryz.ok132 rfl ?_
  conv => whnf
  refine selNP (fun g1 => ?_) (fun g1 => ?_)
  all_goals conv => whnf
  · exact ⟨leafF (fun hx => g1 hx.1), rfl⟩
  refine selNP (fun g2 => ?_) (fun g2 => ?_)
  all_goals conv => whnf
  · exact ⟨leafF (fun hx => g2 (by rw [hx.2])), rfl⟩
  have hlen : m.args.length = n.args.length := by omega
  refine lps [2, 3, 5] [2, 3] (fun i : Nat => i ≤ m.args.length ∧ ∀ j (hj : j < m.args.length), j < i → m.args[j] = n.args[j]) (fun i => m.args.length - i)
    (fun i => ([.l 2 0, .l 3 0, .v (.int .i64 i)],
      [some [.int .i64 m.cls, .int .i64 m.sel, .slice p1 m.args.length c1, .int .i64 m.out, .int .i64 m.locals, .slice p2 m.code.length c2, .slice p3 m.shapes.length c3, .slice p4 m.catches.length c4], some [.int .i64 n.cls, .int .i64 n.sel, .slice p1' n.args.length c1', .int .i64 n.out, .int .i64 n.locals, .slice p2' n.code.length c2', .slice p3' n.shapes.length c3', .slice p4' n.catches.length c4']], h)) 0 ⟨by omega, fun l hl h => by omega⟩ rfl ?_
  rintro i ⟨hi, hg⟩
  conv => whnf
  refine selP (fun g3 => ?_) (fun g3 => ?_)
  all_goals conv => whnf
  · have hil : i < m.args.length := by omega
    have hir : i < n.args.length := by omega
    have e1 := h5.get hil
    have e2 := k5.get hir
    obtain ⟨b1', o1, vs1, q1, a1, a2, a3⟩ := e1
    obtain ⟨b2', o2, vs2, q2, f1, f2, f3⟩ := e2
    subst a2 f2
    have r1 := rdn_get a1 (i := 0) rfl
    have r2 := rdn_get f1 (i := 0) rfl
    repeat' ((first | refine ob (by omega) ?_ | refine ptr' q1 ?_ | refine ptr' q2 ?_ | refine ld r1 ?_ | refine ld r2 ?_) <;> conv => whnf)
    refine selNP (fun g4 => ?_) (fun g4 => ?_)
    all_goals conv => whnf
    · refine ⟨leafF (fun hx => g4 ?_), rfl⟩
      simp [hx.2]
    · refine ar_in (by omega) (by omega) ?_
      conv => whnf
      refine lpn (i + 1) ⟨by omega, fun j hj hji => ?_⟩ (by omega) rfl
      rcases Nat.lt_succ_iff_lt_or_eq.1 hji with h10 | rfl
      · exact hg j hj h10
      · exact g4
  · refine ⟨leafT ⟨g1, ?_⟩, rfl⟩
    exact List.ext_getElem hlen (fun j hj _ => hg j hj (by omega))
def MethT (u : Unt) (m : Mth) : Prop := HeadT u.classes.length m ∧ CodeT u m ∧ CatchesT u m
theorem l3Method_c (us ms : List Value) (u : Unt) (m : Mth) (h : Heap) (hu : UntR h us u) (hm : MthR h ms m) (ok : CsOk u.classes) :
    Pure Tryz.prog 71 [.agg ⟨us⟩, .agg ⟨ms⟩] h (tf (MethT u m)) := by
  have hu0 := hu
  have hm0 := hm
  obtain ⟨p, cc, q, d, rfl, hcs, hms, hl1, hl2⟩ := hu.form
  obtain ⟨p1, c1, p2, c2, p3, c3, p4, c4, rfl, h1, h2, h3, h4, h5, h6, h7, h8, b1, b2, b3, b4⟩ := hm.form
  have no : ¬ MethT u m → .bool false = tf (MethT u m) := fun hx => (tf_f hx).symm
  refine pur Tryz.sigOk Tryz.func71 Tryz.F71 Tryz.ok71 rfl ?_
  conv => whnf
  refine call_p (l3Head_c _ _ u m h hu0 hm0) ?_
  conv => whnf
  refine selNP (fun g1 => ?_) (fun g1 => ?_)
  all_goals conv => whnf
  · exact ⟨no (fun hx => g1 hx.1), rfl⟩
  refine call_p (l6In_c _ _ _ _) ?_
  conv => whnf
  refine selNP (fun g2 => ?_) (fun g2 => ?_)
  all_goals conv => whnf
  · exact ⟨no (fun hx => by have := hx.2.1.1; have := hx.2.1.2.1; omega), rfl⟩
  refine selNP (fun g3 => ?_) (fun g3 => ?_)
  all_goals conv => whnf
  · exact ⟨no (fun hx => by have := hx.2.1.2.2.1; omega), rfl⟩
  refine selP (fun g4 => ?_) (fun g4 => ?_)
  all_goals conv => whnf
  · exact ⟨no (fun hx => by have := hx.2.2.1; omega), rfl⟩
  have hloc : 0 ≤ m.locals := by have := g1.2.2.2.2.2; omega
  refine lps [2, 3, 5] [2, 3] (fun i : Nat => i ≤ m.code.length ∧ ∀ j (hj : j < m.code.length) (hj' : j < m.shapes.length), j < i → InsT u m m.code[j] ∧ ShapeT u.classes.length m.locals m.shapes[j]) (fun i => m.code.length - i)
    (fun i => ([.l 2 0, .l 3 0, .v (.int .i64 i)],
      [some [.slice p u.classes.length cc, .slice q u.methods.length d], some [.int .i64 m.cls, .int .i64 m.sel, .slice p1 m.args.length c1, .int .i64 m.out, .int .i64 m.locals, .slice p2 m.code.length c2, .slice p3 m.shapes.length c3, .slice p4 m.catches.length c4]], h)) 0 ⟨by omega, fun l hl _ h => by omega⟩ rfl ?_
  rintro i ⟨hi, hg⟩
  conv => whnf
  refine selP (fun g5 => ?_) (fun g5 => ?_)
  all_goals conv => whnf
  · have hil : i < m.code.length := by omega
    have hir : i < m.shapes.length := by omega
    have e := h6.get hil
    obtain ⟨bb, off, vs, hq, e1, e2, e3, e4, e5⟩ := e
    subst e2
    have f := h7.get hir
    obtain ⟨bb', off', vs', hq', f1, l, k, f2, f3, f4⟩ := f
    subst f2
    obtain ⟨p5, c5, rfl, _, _⟩ := f3.len
    obtain ⟨p6, c6, rfl, _, _⟩ := f4.len
    refine ob (by omega) ?_
    conv => whnf
    refine ptr' hq ?_
    conv => whnf
    refine ldn e1 ?_
    conv => whnf
    refine callX_p (l3Ins_c _ _ u m _ h hu0 hm0 ok ⟨e4, e5⟩ hloc) ?_
    conv => whnf
    refine selNP (fun g6 => ?_) (fun g6 => ?_)
    all_goals conv => whnf
    · exact ⟨no (fun hx => g6 (hx.2.1.2.2.2.1 _ (List.getElem_mem _))), rfl⟩
    refine ob (by omega) ?_
    conv => whnf
    refine ptr' hq' ?_
    conv => whnf
    refine ldn f1 ?_
    conv => whnf
    refine callX_p (sShapeOk_c _ _ _ _ _ _ _ _ h hcs f3 f4) ?_
    conv => whnf
    refine selNP (fun g7 => ?_) (fun g7 => ?_)
    all_goals conv => whnf
    · exact ⟨no (fun hx => g7 ⟨ok, hx.2.1.2.2.2.2 _ (List.getElem_mem _)⟩), rfl⟩
    · refine ar_in (by omega) (by omega) ?_
      conv => whnf
      refine lpn (i + 1) ⟨by omega, fun j hj hj' hji => ?_⟩ (by omega) rfl
      rcases Nat.lt_succ_iff_lt_or_eq.1 hji with h10 | rfl
      · exact hg j hj hj' h10
      · exact ⟨g6, g7.2⟩
  · have hA : ∀ x ∈ m.code, InsT u m x := by
      intro t ht
      obtain ⟨j, hj, rfl⟩ := List.mem_iff_getElem.1 ht
      exact (hg j hj (by omega) (by omega)).1
    have hB : ∀ s ∈ m.shapes, ShapeT u.classes.length m.locals s := by
      intro t ht
      obtain ⟨j, hj, rfl⟩ := List.mem_iff_getElem.1 ht
      exact (hg j (by omega) hj (by omega)).2
    have hC : CodeT u m := ⟨by omega, by omega, by omega, hA, hB⟩
    refine lps [2, 3, 6] [2, 3] (fun i : Nat => i ≤ m.catches.length ∧ ∀ j (hj : j < m.catches.length), j < i → CatchT u m m.catches[j]) (fun i => m.catches.length - i)
      (fun i => ([.l 2 0, .l 3 0, .v (.int .i64 i)],
        [some [.slice p u.classes.length cc, .slice q u.methods.length d], some [.int .i64 m.cls, .int .i64 m.sel, .slice p1 m.args.length c1, .int .i64 m.out, .int .i64 m.locals, .slice p2 m.code.length c2, .slice p3 m.shapes.length c3, .slice p4 m.catches.length c4]], h)) 0 ⟨by omega, fun l hl h => by omega⟩ rfl ?_
    rintro i ⟨hi, hg⟩
    conv => whnf
    refine selP (fun g6 => ?_) (fun g6 => ?_)
    all_goals conv => whnf
    · have hil : i < m.catches.length := by omega
      have e := h8.get hil
      obtain ⟨bb, off, vs, hq, e1, e2, e3⟩ := e
      subst e2
      refine ob (by omega) ?_
      conv => whnf
      refine ptr' hq ?_
      conv => whnf
      refine ldn e1 ?_
      conv => whnf
      refine callX_p (l3Catch_c _ _ u m _ h hu0 hm0 ok e3) ?_
      conv => whnf
      refine selNP (fun g7 => ?_) (fun g7 => ?_)
      all_goals conv => whnf
      · exact ⟨no (fun hx => g7 (hx.2.2.2 _ (List.getElem_mem _))), rfl⟩
      · refine ar_in (by omega) (by omega) ?_
        conv => whnf
        refine lpn (i + 1) ⟨by omega, fun j hj hji => ?_⟩ (by omega) rfl
        rcases Nat.lt_succ_iff_lt_or_eq.1 hji with h10 | rfl
        · exact hg j hj h10
        · exact g7
    · refine ⟨leafT ⟨g1, hC, by omega, ?_⟩, rfl⟩
      intro t ht
      obtain ⟨j, hj, rfl⟩ := List.mem_iff_getElem.1 ht
      exact hg j hj (by omega)
end Go.Proofs
namespace Go.Proofs
open Go.Vc
set_option maxRecDepth 100000
set_option maxHeartbeats 4000000
theorem up_refl {cs : List Cls} (ok : CsOk cs) {a : Int} (h0 : 0 ≤ a) (h1 : a < cs.length) : up cs a a = true := by
  rw [up_step ok h0 h1]; simp
theorem l3Apart_c (us : List Value) (u : Unt) (h : Heap) (hu : UntR h us u) (ok : CsOk u.classes) (hc : ∀ m ∈ u.methods, -1 ≤ m.cls ∧ m.cls < u.classes.length) :
    Pure Tryz.prog 72 [.agg ⟨us⟩] h (tf (AgreeT u)) := by
  obtain ⟨p, cc, q, d, rfl, hcs, hms, hl1, hl2⟩ := hu.form
  have no : ¬ AgreeT u → .bool false = tf (AgreeT u) := fun hx => (tf_f hx).symm
  refine pur Tryz.sigOk Tryz.func72 Tryz.F72 Tryz.ok72 rfl ?_
  conv => whnf
  refine lps [1, 3] [1] (fun i : Nat => i ≤ u.methods.length ∧ ∀ i' j (hi : i' < u.methods.length) (hj : j < u.methods.length), i' < i → i' ≠ j → PairT u u.methods[i'] u.methods[j]) (fun i => u.methods.length - i)
    (fun i => ([.l 1 0, .v (.int .i64 i)], [some [.slice p u.classes.length cc, .slice q u.methods.length d]], h)) 0 ⟨by omega, fun _ _ _ _ hx => by omega⟩ rfl ?_
  rintro i ⟨hi, hg⟩
  conv => whnf
  refine selP (fun g2 => ?_) (fun g2 => ?_)
  all_goals conv => whnf
  · have hml : i < u.methods.length := by omega
    have e := hms.get hml
    obtain ⟨bb, off, vs, hq, e1, e2⟩ := e
    have hi1 := hc _ (List.getElem_mem hml)
    have e20 := e2
    obtain ⟨p1, c1, p2, c2, p3, c3, p4, c4, e3, h1, h2, h3, h4, h5, h6, h7, h8, b1, b2, b3, b4⟩ := e2.form
    subst e3
    refine lps [1, 3, 4] [1] (fun j : Nat => j ≤ u.methods.length ∧ ∀ j' (hj : j' < u.methods.length), j' < j → i ≠ j' → PairT u u.methods[i] u.methods[j']) (fun j => u.methods.length - j)
      (fun j => ([.l 1 0, .v (.int .i64 i), .v (.int .i64 j)],
        [some [.slice p u.classes.length cc, .slice q u.methods.length d]], h)) 0 ⟨by omega, fun _ _ hx => by omega⟩ rfl ?_
    rintro j ⟨hj, hgj⟩
    conv => whnf
    refine selP (fun g3 => ?_) (fun g3 => ?_)
    all_goals conv => whnf
    · have hjl : j < u.methods.length := by omega
      have e := hms.get hjl
      obtain ⟨bb', off', vs', hq', f1, f2⟩ := e
      have hj1 := hc _ (List.getElem_mem hjl)
      have f20 := f2
      obtain ⟨p1', c1', p2', c2', p3', c3', p4', c4', f3, k1, k2, k3, k4, k5, k6, k7, k8, d1, d2, d3, d4⟩ := f2.form
      subst f3
      have bad : i ≠ j → ¬ PairT u u.methods[i] u.methods[j] → Value.bool false = tf (AgreeT u) := fun hne hx => no (fun hy => hx (hy i j hml hjl hne))
      have go : (i ≠ j → PairT u u.methods[i] u.methods[j]) → ∀ j' (hj : j' < u.methods.length), j' < j + 1 → i ≠ j' → PairT u u.methods[i] u.methods[j'] := by
        intro hx j' hj' hji hne
        rcases Nat.lt_succ_iff_lt_or_eq.1 hji with h10 | rfl
        · exact hgj j' hj' h10 hne
        · exact hx hne
      refine ob (by omega) ?_
      conv => whnf
      refine ptr' hq ?_
      conv => whnf
      refine ldn e1 ?_
      conv => whnf
      refine ob (by omega) ?_
      conv => whnf
      refine ptr' hq' ?_
      conv => whnf
      refine ldn f1 ?_
      conv => whnf
      by_cases hskip : (i : Int) = j ∨ u.methods[i].cls < 0 ∨ u.methods[j].cls < 0 ∨ u.methods[i].sel ≠ u.methods[j].sel
      · repeat' ((first | refine selPt (by omega) ?_ | refine selPf (by omega) ?_ | refine selNPt (by omega) ?_ | refine selNPf (by omega) ?_ | refine selP (fun _ => ?_) (fun _ => ?_) | refine selNP (fun _ => ?_) (fun _ => ?_) | refine selB (fun _ => ?_) (fun _ => ?_) | refine selNB (fun _ => ?_) (fun _ => ?_) | refine ob (by omega) ?_ | refine ar_in (by omega) (by omega) ?_ | refine ptr ?_) <;> conv => whnf)
        all_goals first
          | (exfalso; omega)
          | (refine lpn (j + 1) ⟨by omega, go (fun hne k1 k2 k3 => by omega)⟩ (by omega) rfl)
      · repeat' ((first | refine selPt (by omega) ?_ | refine selPf (by omega) ?_ | refine selNPt (by omega) ?_ | refine selNPf (by omega) ?_ | refine selP (fun _ => ?_) (fun _ => ?_) | refine selNP (fun _ => ?_) (fun _ => ?_) | refine selB (fun _ => ?_) (fun _ => ?_) | refine selNB (fun _ => ?_) (fun _ => ?_) | refine ob (by omega) ?_ | refine ar_in (by omega) (by omega) ?_ | refine ptr ?_) <;> conv => whnf)
        refine call_p (l2Up_c _ _ _ _ _ _ _ hcs ok (by omega) (by omega) (by omega)) ?_
        conv => whnf
        refine selB (fun g4 => ?_) (fun g4 => ?_)
        all_goals conv => whnf
        · refine selP (fun g5 => ?_) (fun g5 => ?_)
          all_goals conv => whnf
          · exact ⟨bad (by omega) (fun hx => (hx (by omega) (by omega) (by omega)).1 g5), rfl⟩
          · refine call_p (l3Same_c _ _ _ _ h e20 f20) ?_
            conv => whnf
            refine selNP (fun g6 => ?_) (fun g6 => ?_)
            all_goals conv => whnf
            · exact ⟨bad (by omega) (fun hx => g6 ((hx (by omega) (by omega) (by omega)).2 g4)), rfl⟩
            · refine ar_in (by omega) (by omega) ?_
              conv => whnf
              refine lpn (j + 1) ⟨by omega, go (fun hne k1 k2 k3 => ⟨g5, fun _ => g6⟩)⟩ (by omega) rfl
        · refine ar_in (by omega) (by omega) ?_
          conv => whnf
          refine lpn (j + 1) ⟨by omega, go (fun hne k1 k2 k3 => ⟨fun hy => ?_, fun k4 => by rw [g4] at k4; cases k4⟩)⟩ (by omega) rfl
          rw [hy, up_refl ok (by omega) (by omega)] at g4
          cases g4
    · refine ar_in (by omega) (by omega) ?_
      conv => whnf
      refine lpn (i + 1) ⟨by omega, fun i' j hi' hj hii hne => ?_⟩ (by omega) rfl
      rcases Nat.lt_succ_iff_lt_or_eq.1 hii with h10 | rfl
      · exact hg i' j hi' hj h10 hne
      · exact hgj j hj (by omega) hne
  · exact ⟨leafT (fun i' j hi' hj hne => hg i' j hi' hj (by omega) hne), rfl⟩
def UnitT (u : Unt) : Prop := CsOk u.classes ∧ (1 ≤ u.methods.length ∧ u.methods.length ≤ 4) ∧ ((mth u 0).cls = -1 ∧ (mth u 0).args = [] ∧ (mth u 0).out = 1) ∧ (∀ m ∈ u.methods, MethT u m) ∧ AgreeT u
theorem MethT.cls {u : Unt} {m : Mth} (hm : MethT u m) : -1 ≤ m.cls ∧ m.cls < u.classes.length := by
  have := hm.1.1
  omega
theorem sUnitOk_c (us : List Value) (u : Unt) (h : Heap) (hu : UntR h us u) : Pure Tryz.prog 25 [.agg ⟨us⟩] h (tf (UnitT u)) := by
  have hu0 := hu
  obtain ⟨p, cc, q, d, rfl, hcs, hms, hl1, hl2⟩ := hu.form
  have no : ¬ UnitT u → .bool false = tf (UnitT u) := fun hx => (tf_f hx).symm
  refine pur Tryz.sigOk Tryz.func25 Tryz.F25 Tryz.ok25 rfl ?_
  conv => whnf
  refine call_p (sClassesOk_c _ _ _ _ h hcs) ?_
  conv => whnf
  refine selNP (fun ok => ?_) (fun ok => ?_)
  all_goals conv => whnf
  · exact ⟨no (fun hx => ok hx.1), rfl⟩
  refine call_p (l6In_c _ _ _ _) ?_
  conv => whnf
  refine selNP (fun g2 => ?_) (fun g2 => ?_)
  all_goals conv => whnf
  · exact ⟨no (fun hx => by have := hx.2.1; omega), rfl⟩
  have h0 : 0 < u.methods.length := by omega
  have hme : mth u 0 = u.methods[0] := mth_eq h0 rfl
  have e := hms.get h0
  obtain ⟨bb, off, vs, hq, e1, e2⟩ := e
  obtain ⟨p1, c1, p2, c2, p3, c3, p4, c4, e3, h1, h2, h3, h4, h5, h6, h7, h8, b1, b2, b3, b4⟩ := e2.form
  subst e3
  refine ob (by omega) ?_
  conv => whnf
  refine ptr' hq ?_
  conv => whnf
  refine ld (rdn_get e1 (i := 0) rfl) ?_
  conv => whnf
  refine selNP (fun g3 => ?_) (fun g3 => ?_)
  all_goals conv => whnf
  · exact ⟨no (fun hx => g3 (by rw [← hme]; exact hx.2.2.1.1)), rfl⟩
  refine ob (by omega) ?_
  conv => whnf
  refine ptr' hq ?_
  conv => whnf
  refine ld (rdn_get e1 (i := 2) rfl) ?_
  conv => whnf
  refine selP (fun g4 => ?_) (fun g4 => ?_)
  all_goals conv => whnf
  · exact ⟨no (fun hx => by have := hx.2.2.1.2.1; rw [hme] at this; rw [this] at g4; simp at g4), rfl⟩
  refine ob (by omega) ?_
  conv => whnf
  refine ptr' hq ?_
  conv => whnf
  refine ld (rdn_get e1 (i := 3) rfl) ?_
  conv => whnf
  refine selNP (fun g5 => ?_) (fun g5 => ?_)
  all_goals conv => whnf
  · exact ⟨no (fun hx => g5 (by rw [← hme]; exact hx.2.2.1.2.2)), rfl⟩
  refine lps [1, 3] [1] (fun i : Nat => i ≤ u.methods.length ∧ ∀ j (hj : j < u.methods.length), j < i → MethT u u.methods[j]) (fun i => u.methods.length - i)
    (fun i => ([.l 1 0, .v (.int .i64 i)], [some [.slice p u.classes.length cc, .slice q u.methods.length d]], h)) 0 ⟨by omega, fun _ _ hx => by omega⟩ rfl ?_
  rintro i ⟨hi, hg⟩
  conv => whnf
  refine selP (fun g6 => ?_) (fun g6 => ?_)
  all_goals conv => whnf
  · have hil : i < u.methods.length := by omega
    have f := hms.get hil
    obtain ⟨bb', off', vs', hq', f1, f2⟩ := f
    have f20 := f2
    obtain ⟨p1', c1', p2', c2', p3', c3', p4', c4', f3, _⟩ := f2.form
    subst f3
    refine ob (by omega) ?_
    conv => whnf
    refine ptr' hq' ?_
    conv => whnf
    refine ldn f1 ?_
    conv => whnf
    refine callX_p (l3Method_c _ _ u _ h hu0 f20 ok) ?_
    conv => whnf
    refine selNP (fun g7 => ?_) (fun g7 => ?_)
    all_goals conv => whnf
    · exact ⟨no (fun hx => g7 (hx.2.2.2.1 _ (List.getElem_mem _))), rfl⟩
    · refine ar_in (by omega) (by omega) ?_
      conv => whnf
      refine lpn (i + 1) ⟨by omega, fun j hj hji => ?_⟩ (by omega) rfl
      rcases Nat.lt_succ_iff_lt_or_eq.1 hji with h10 | rfl
      · exact hg j hj h10
      · exact g7
  · have hA : ∀ m ∈ u.methods, MethT u m := by
      intro t ht
      obtain ⟨j, hj, rfl⟩ := List.mem_iff_getElem.1 ht
      exact hg j hj (by omega)
    refine call_p (l3Apart_c _ u h hu0 ok (fun m hm => (hA m hm).cls)) ?_
    conv => whnf
    have hargs : u.methods[0].args = [] := List.eq_nil_of_length_eq_zero (by omega)
    exact ⟨leafD ⟨fun hx => hx.2.2.2.2, fun hx => ⟨ok, by omega, by rw [hme]; exact ⟨g3, hargs, g5⟩, hA, hx⟩⟩, rfl⟩
theorem UnitOk_c (us : List Value) (u : Unt) (h : Heap) (hu : UntR h us u) : Pure Tryz.prog 46 [.agg ⟨us⟩] h (tf (UnitT u)) := by
  have hu0 := hu
  obtain ⟨p, cc, q, d, rfl, hcs, hms, hl1, hl2⟩ := hu.form
  have no : ¬ UnitT u → .bool false = tf (UnitT u) := fun hx => (tf_f hx).symm
  refine purL Tryz.sigOk Tryz.func46 Tryz.F46 Tryz.ok46 rfl ?_
  conv => whnf
  refine call_p (ClassesOk_c _ _ _ _ h hcs) ?_
  conv => whnf
  refine selNP (fun ok => ?_) (fun ok => ?_)
  all_goals conv => whnf
  · exact ⟨no (fun hx => ok hx.1), Heap.le_refl h⟩
  refine selP (fun g2 => ?_) (fun g2 => ?_)
  all_goals conv => whnf
  · exact ⟨no (fun hx => by have := hx.2.1; omega), Heap.le_refl h⟩
  refine selP (fun g2' => ?_) (fun g2' => ?_)
  all_goals conv => whnf
  · exact ⟨no (fun hx => by have := hx.2.1; omega), Heap.le_refl h⟩
  have h0 : 0 < u.methods.length := by omega
  have hme : mth u 0 = u.methods[0] := mth_eq h0 rfl
  have e := hms.get h0
  obtain ⟨bb, off, vs, hq, e1, e2⟩ := e
  obtain ⟨p1, c1, p2, c2, p3, c3, p4, c4, e3, h1, h2, h3, h4, h5, h6, h7, h8, b1, b2, b3, b4⟩ := e2.form
  subst e3
  refine ob (by omega) ?_
  conv => whnf
  refine ptr' hq ?_
  conv => whnf
  refine ldn e1 ?_
  conv => whnf
  refine selNP (fun g3 => ?_) (fun g3 => ?_)
  all_goals conv => whnf
  · exact ⟨no (fun hx => g3 (by rw [← hme]; exact hx.2.2.1.1)), Heap.le_refl h⟩
  refine selNP (fun g4 => ?_) (fun g4 => ?_)
  all_goals conv => whnf
  · exact ⟨no (fun hx => by have := hx.2.2.1.2.1; rw [hme] at this; rw [this] at g4; simp at g4), Heap.le_refl h⟩
  refine selNP (fun g5 => ?_) (fun g5 => ?_)
  all_goals conv => whnf
  · exact ⟨no (fun hx => g5 (by rw [← hme]; exact hx.2.2.1.2.2)), Heap.le_refl h⟩
  refine call_r (wants_c h) ?_
  rintro v h' ⟨b, rfl, hb, rfl⟩
  conv => whnf
  have hle : h.le (h.set b (mapO wantL)) := Heap.le_set_free (Heap.le_refl h) hb
  have hb' : (h.set b (mapO wantL)) b = some (mapO wantL) := by simp [Heap.set]
  generalize h.set b (mapO wantL) = h1' at hle hb' ⊢
  have hu1 := hu0.le hle
  have hms1 : Row 8 MthR h1' (.slice q u.methods.length d) u.methods := hms.le hle (fun _ _ hx => hx.le hle)
  refine lps [1, 4, 43, 44, 45] [1] (fun i : Nat => i ≤ u.methods.length ∧ ∀ j (hj : j < u.methods.length), j < i → MethT u u.methods[j]) (fun i => u.methods.length - i)
    (fun i => ([.l 1 0, .v (.map (some b)), .v (.slice q u.methods.length d), .v (.int .i64 u.methods.length), .v (.int .i64 i)], [some [.slice p u.classes.length cc, .slice q u.methods.length d]], h1')) 0 ⟨by omega, fun _ _ hx => by omega⟩ rfl ?_
  rintro i ⟨hi, hg⟩
  conv => whnf
  refine selP (fun g6 => ?_) (fun g6 => ?_)
  all_goals conv => whnf
  · have hil : i < u.methods.length := by omega
    have f := hms1.get hil
    obtain ⟨bb', off', vs', hq', f1, f2⟩ := f
    have f20 := f2
    obtain ⟨p1', c1', p2', c2', p3', c3', p4', c4', f3, _⟩ := f2.form
    subst f3
    refine ob (by omega) ?_
    conv => whnf
    refine ptr' hq' ?_
    conv => whnf
    refine ldn f1 ?_
    conv => whnf
    refine call_p (headOk_c _ _ u _ h1' hu1 f20) ?_
    conv => whnf
    refine selNP (fun g7 => ?_) (fun g7 => ?_)
    all_goals conv => whnf
    · exact ⟨no (fun hx => g7 (hx.2.2.2.1 _ (List.getElem_mem _)).1), hle⟩
    refine call_p (codeOk_c _ _ u _ b h1' hu1 f20 ok hb') ?_
    conv => whnf
    refine selNP (fun g8 => ?_) (fun g8 => ?_)
    all_goals conv => whnf
    · exact ⟨no (fun hx => g8 (hx.2.2.2.1 _ (List.getElem_mem _)).2.1), hle⟩
    refine call_p (catchesOk_c _ _ u _ h1' hu1 f20 ok) ?_
    conv => whnf
    refine selNP (fun g9 => ?_) (fun g9 => ?_)
    all_goals conv => whnf
    · exact ⟨no (fun hx => g9 (hx.2.2.2.1 _ (List.getElem_mem _)).2.2), hle⟩
    · refine ar_in (by omega) (by omega) ?_
      conv => whnf
      refine lpn (i + 1) ⟨by omega, fun j hj hji => ?_⟩ (by omega) rfl
      rcases Nat.lt_succ_iff_lt_or_eq.1 hji with h10 | rfl
      · exact hg j hj h10
      · exact ⟨g7, g8, g9⟩
  · have hA : ∀ m ∈ u.methods, MethT u m := by
      intro t ht
      obtain ⟨j, hj, rfl⟩ := List.mem_iff_getElem.1 ht
      exact hg j hj (by omega)
    refine call_p (agree_c _ u h1' hu1 ok (fun m hm => (hA m hm).cls)) ?_
    conv => whnf
    have hargs : u.methods[0].args = [] := List.eq_nil_of_length_eq_zero (by omega)
    exact ⟨leafD ⟨fun hx => hx.2.2.2.2, fun hx => ⟨ok, by omega, by rw [hme]; exact ⟨g3, hargs, g5⟩, hA, hx⟩⟩, hle⟩
end Go.Proofs
namespace Go.Proofs
open Go.Vc
set_option maxRecDepth 100000
set_option maxHeartbeats 4000000
def ownM (c s : Int) : List Mth → Int → Int
  | [], _ => -1
  | m :: r, i => if m.cls = c ∧ m.sel = s then i else ownM c s r (i + 1)
def findK (u : Unt) (s : Int) : Nat → Int → Int
  | 0, _ => -1
  | k + 1, c => if 0 ≤ c then (if 0 ≤ ownM c s u.methods 0 then ownM c s u.methods 0 else findK u s k (superOf u.classes c)) else -1
def find (u : Unt) (c s : Int) : Int := findK u s (c.toNat + 1) c
theorem findK_neg {u : Unt} {s : Int} (k : Nat) {c : Int} (h : c < 0) : findK u s k c = -1 := by
  cases k with
  | zero => rfl
  | succ k => rw [findK, if_neg (by omega)]
theorem find_neg {u : Unt} {c s : Int} (h : c < 0) : find u c s = -1 := findK_neg _ h
theorem findK_any {u : Unt} (ok : CsOk u.classes) (s : Int) : ∀ (k : Nat) (c : Int), c < u.classes.length → c.toNat < k → findK u s k c = find u c s
  | 0, c, _, h => by omega
  | k + 1, c, hl, h => by
    by_cases h0 : 0 ≤ c
    · have hs := ok.super h0 hl
      unfold find
      rw [findK, findK]
      simp only [h0, if_true]
      split
      · rfl
      · by_cases h1 : 0 ≤ superOf u.classes c
        · rw [findK_any ok s k _ (by omega) (by omega)]
          rw [← findK_any ok s c.toNat _ (by omega) (by omega)]
        · rw [findK_neg _ (by omega), findK_neg _ (by omega)]
    · rw [findK_neg _ (by omega), find_neg (by omega)]
theorem find_own {u : Unt} {c s : Int} (h0 : 0 ≤ c) (h : 0 ≤ ownM c s u.methods 0) : find u c s = ownM c s u.methods 0 := by
  unfold find; rw [findK]; simp [h0, h]
theorem find_up {u : Unt} (ok : CsOk u.classes) {c s : Int} (h0 : 0 ≤ c) (hl : c < u.classes.length) (h : ownM c s u.methods 0 < 0) : find u c s = find u (superOf u.classes c) s := by
  have hs := ok.super h0 hl
  conv => lhs; unfold find
  rw [findK]
  simp only [h0, if_true, show ¬ 0 ≤ ownM c s u.methods 0 by omega, if_false]
  by_cases h1 : 0 ≤ superOf u.classes c
  · exact findK_any ok s _ _ (by omega) (by omega)
  · rw [findK_neg _ (by omega), find_neg (by omega)]
theorem ownM_drop {c s : Int} : ∀ (l : List Mth) (i : Nat) (k : Int), (∀ j (hj : j < l.length), j < i → ¬ (l[j].cls = c ∧ l[j].sel = s)) → ownM c s l k = ownM c s (l.drop i) (k + i)
  | l, 0, k, _ => by simp
  | [], i + 1, k, _ => by simp [ownM]
  | m :: r, i + 1, k, h => by
    have h0 := h 0 (by simp) (by omega)
    simp only [List.getElem_cons_zero] at h0
    rw [ownM, if_neg h0]
    rw [ownM_drop r i (k + 1) (fun j hj hji => by have := h (j + 1) (by simpa using hj) (by omega); simpa using this)]
    simp only [List.drop_succ_cons]
    congr 1
    omega
theorem ownM_at {c s : Int} {l : List Mth} {i : Nat} (hi : i < l.length) (hn : ∀ j (hj : j < l.length), j < i → ¬ (l[j].cls = c ∧ l[j].sel = s)) (h : l[i].cls = c ∧ l[i].sel = s) : ownM c s l 0 = i := by
  rw [ownM_drop l i 0 hn, List.drop_eq_getElem_cons hi, ownM, if_pos h]; omega
theorem ownM_none {c s : Int} {l : List Mth} (hn : ∀ j (hj : j < l.length), ¬ (l[j].cls = c ∧ l[j].sel = s)) : ownM c s l 0 = -1 := by
  rw [ownM_drop l l.length 0 (fun j hj _ => hn j hj)]; simp [ownM]
theorem unitFind_c (us : List Value) (u : Unt) (c s : Int) (h : Heap) (hu : UntR h us u) (ok : CsOk u.classes) (h0 : -1 ≤ c) (hl : c < u.classes.length) :
    Pure Tryz.prog 254 [.agg ⟨us⟩, .int .i64 c, .int .i64 s] h (.int .i64 (find u c s)) := by
  obtain ⟨p, cc, q, d, rfl, hcs, hms, hl1, hl2⟩ := hu.form
  refine pur Tryz.sigOk Tryz.func254 Tryz.F254 Tryz.ok254 rfl ?_
  conv => whnf
  refine lps [2, 3, 7] [3] (fun x : Int => -1 ≤ x ∧ x < u.classes.length ∧ find u x s = find u c s) (fun x => (x + 1).toNat)
    (fun x => ([.v (.int .i64 s), .l 3 0, .v (.int .i64 x)], [some [.slice p u.classes.length cc, .slice q u.methods.length d]], h)) c ⟨h0, hl, rfl⟩ rfl ?_
  rintro x ⟨x0, x1, x2⟩
  conv => whnf
  refine selP (fun g1 => ?_) (fun g1 => ?_)
  all_goals conv => whnf
  · refine lps [2, 3, 7, 20, 21, 22] [3] (fun i : Nat => i ≤ u.methods.length ∧ ∀ j (hj : j < u.methods.length), j < i → ¬ (u.methods[j].cls = x ∧ u.methods[j].sel = s)) (fun i => u.methods.length - i)
      (fun i => ([.v (.int .i64 s), .l 3 0, .v (.int .i64 x), .v (.slice q u.methods.length d), .v (.int .i64 u.methods.length), .v (.int .i64 i)], [some [.slice p u.classes.length cc, .slice q u.methods.length d]], h)) 0 ⟨by omega, fun _ _ hx => by omega⟩ rfl ?_
    rintro i ⟨hi, hg⟩
    conv => whnf
    refine selP (fun g2 => ?_) (fun g2 => ?_)
    all_goals conv => whnf
    · have hml : i < u.methods.length := by omega
      have e := hms.get hml
      obtain ⟨bb, off, vs, hq, e1, e2⟩ := e
      obtain ⟨p1, c1, p2, c2, p3, c3, p4, c4, e3, _⟩ := e2.form
      subst e3
      have go : ¬ (u.methods[i].cls = x ∧ u.methods[i].sel = s) → ∀ j (hj : j < u.methods.length), j < i + 1 → ¬ (u.methods[j].cls = x ∧ u.methods[j].sel = s) := by
        intro hx j hj hji
        rcases Nat.lt_succ_iff_lt_or_eq.1 hji with h10 | rfl
        · exact hg j hj h10
        · exact hx
      refine ob (by omega) ?_
      conv => whnf
      refine ptr' hq ?_
      conv => whnf
      refine ldn e1 ?_
      conv => whnf
      refine selP (fun g3 => ?_) (fun g3 => ?_)
      all_goals conv => whnf
      · refine selP (fun g4 => ?_) (fun g4 => ?_)
        all_goals conv => whnf
        · have ho := ownM_at hml hg ⟨g3, g4⟩
          exact ⟨by rw [← x2, find_own g1 (by omega), ho], rfl⟩
        · refine ar_in (by omega) (by omega) ?_
          conv => whnf
          refine lpn (i + 1) ⟨by omega, go (fun hx => g4 hx.2)⟩ (by omega) rfl
      · refine ar_in (by omega) (by omega) ?_
        conv => whnf
        refine lpn (i + 1) ⟨by omega, go (fun hx => g3 hx.1)⟩ (by omega) rfl
    · have ho : ownM x s u.methods 0 = -1 := ownM_none (fun j hj => hg j hj (by omega))
      have hxl : x.toNat < u.classes.length := by omega
      have e := hcs.at hxl
      obtain ⟨bb, off, q', k', d', hp, _, e2, _, _, _, _⟩ := e
      have hs := ok.super g1 x1
      have hse : superOf u.classes x = u.classes[x.toNat].super := by simp [superOf, hxl]
      refine ob (by omega) ?_
      conv => whnf
      refine ptr' hp ?_
      conv => whnf
      refine ld e2 ?_
      conv => whnf
      refine lpn (u.classes[x.toNat].super) ⟨by omega, by omega, ?_⟩ (by omega) rfl
      rw [← x2, find_up ok g1 x1 (by omega), hse]
  · exact ⟨by rw [← x2, find_neg (by omega)], rfl⟩
theorem l3Find_c (us : List Value) (u : Unt) (c s : Int) (h : Heap) (hu : UntR h us u) (ok : CsOk u.classes) (h0 : -1 ≤ c) (hl : c < u.classes.length) :
    Pure Tryz.prog 213 [.agg ⟨us⟩, .int .i64 c, .int .i64 s] h (.int .i64 (find u c s)) := by
  obtain ⟨p, cc, q, d, rfl, hcs, hms, hl1, hl2⟩ := hu.form
  refine pur Tryz.sigOk Tryz.func213 Tryz.F213 Tryz.ok213 rfl ?_
  conv => whnf
  refine lps [1, 2, 3] [3] (fun x : Int => -1 ≤ x ∧ x < u.classes.length ∧ find u x s = find u c s) (fun x => (x + 1).toNat)
    (fun x => ([.v (.int .i64 x), .v (.int .i64 s), .l 3 0], [some [.slice p u.classes.length cc, .slice q u.methods.length d]], h)) c ⟨h0, hl, rfl⟩ rfl ?_
  rintro x ⟨x0, x1, x2⟩
  conv => whnf
  refine selP (fun g1 => ?_) (fun g1 => ?_)
  all_goals conv => whnf
  · refine lps [1, 2, 3, 7] [3] (fun i : Nat => i ≤ u.methods.length ∧ ∀ j (hj : j < u.methods.length), j < i → ¬ (u.methods[j].cls = x ∧ u.methods[j].sel = s)) (fun i => u.methods.length - i)
      (fun i => ([.v (.int .i64 x), .v (.int .i64 s), .l 3 0, .v (.int .i64 i)], [some [.slice p u.classes.length cc, .slice q u.methods.length d]], h)) 0 ⟨by omega, fun _ _ hx => by omega⟩ rfl ?_
    rintro i ⟨hi, hg⟩
    conv => whnf
    refine selP (fun g2 => ?_) (fun g2 => ?_)
    all_goals conv => whnf
    · have hml : i < u.methods.length := by omega
      have e := hms.get hml
      obtain ⟨bb, off, vs, hq, e1, e2⟩ := e
      obtain ⟨p1, c1, p2, c2, p3, c3, p4, c4, e3, _⟩ := e2.form
      subst e3
      have go : ¬ (u.methods[i].cls = x ∧ u.methods[i].sel = s) → ∀ j (hj : j < u.methods.length), j < i + 1 → ¬ (u.methods[j].cls = x ∧ u.methods[j].sel = s) := by
        intro hx j hj hji
        rcases Nat.lt_succ_iff_lt_or_eq.1 hji with h10 | rfl
        · exact hg j hj h10
        · exact hx
      have r0 := rdn_get e1 (i := 0) rfl
      have r1 := rdn_get e1 (i := 1) rfl
      refine ob (by omega) ?_
      conv => whnf
      refine ptr' hq ?_
      conv => whnf
      refine ld r0 ?_
      conv => whnf
      refine selP (fun g3 => ?_) (fun g3 => ?_)
      all_goals conv => whnf
      · refine ob (by omega) ?_
        conv => whnf
        refine ptr' hq ?_
        conv => whnf
        refine ld r1 ?_
        conv => whnf
        refine selP (fun g4 => ?_) (fun g4 => ?_)
        all_goals conv => whnf
        · have ho := ownM_at hml hg ⟨g3, g4⟩
          exact ⟨by rw [← x2, find_own (by omega) (by omega), ho], rfl⟩
        · refine ar_in (by omega) (by omega) ?_
          conv => whnf
          refine lpn (i + 1) ⟨by omega, go (fun hx => g4 hx.2)⟩ (by omega) rfl
      · refine ar_in (by omega) (by omega) ?_
        conv => whnf
        refine lpn (i + 1) ⟨by omega, go (fun hx => g3 hx.1)⟩ (by omega) rfl
    · have ho : ownM x s u.methods 0 = -1 := ownM_none (fun j hj => hg j hj (by omega))
      have hxl : x.toNat < u.classes.length := by omega
      have e := hcs.at hxl
      obtain ⟨bb, off, q', k', d', hp, _, e2, _, _, _, _⟩ := e
      have hs := ok.super (a := x) (by omega) x1
      have hse : superOf u.classes x = u.classes[x.toNat].super := by simp [superOf, hxl]
      refine ob (by omega) ?_
      conv => whnf
      refine ptr' hp ?_
      conv => whnf
      refine ld e2 ?_
      conv => whnf
      refine lpn (u.classes[x.toNat].super) ⟨by omega, by omega, ?_⟩ (by omega) rfl
      rw [← x2, find_up ok (c := x) (by omega) x1 (by omega), hse]
  · exact ⟨by rw [← x2, find_neg (by omega)], rfl⟩
def calledI (u : Unt) (x : Ins) : Int := if x.kind = 20 then x.a else if x.kind = 21 then find u x.a x.b else -1
theorem calledBy_c (us : List Value) (u : Unt) (x : Ins) (h : Heap) (hu : UntR h us u) (ok : CsOk u.classes) (hx : x.kind = 21 → -1 ≤ x.a ∧ x.a < u.classes.length) :
    Pure Tryz.prog 271 [.agg ⟨us⟩, .agg #[.int .i64 x.kind, .int .i64 x.a, .int .i64 x.b]] h (.int .i64 (calledI u x)) := by
  have hu0 := hu
  obtain ⟨p, cc, q, d, rfl, hcs, hms, hl1, hl2⟩ := hu.form
  refine pur Tryz.sigOk Tryz.func271 Tryz.F271 Tryz.ok271 rfl ?_
  conv => whnf
  refine selP (fun g1 => ?_) (fun g1 => ?_)
  all_goals conv => whnf
  · exact ⟨by simp [calledI, g1], rfl⟩
  refine selP (fun g2 => ?_) (fun g2 => ?_)
  all_goals conv => whnf
  · refine call_p (unitFind_c _ u _ _ h hu0 ok (hx g2).1 (hx g2).2) ?_
    conv => whnf
    exact ⟨by simp [calledI, g2], rfl⟩
  · exact ⟨by simp [calledI, g1, g2], rfl⟩
theorem elemType_c (a : Int) (h : Heap) : Pure Tryz.prog 259 [.int .i64 a] h (.int .i64 (if a = 0 then 1 else 8)) := by
  refine pur Tryz.sigOk Tryz.func259 Tryz.F259 Tryz.ok259 rfl ?_
  conv => whnf
  repeat' ((first | refine selP (fun _ => ?_) (fun _ => ?_) | refine selNP (fun _ => ?_) (fun _ => ?_) | refine selB (fun _ => ?_) (fun _ => ?_) | refine selNB (fun _ => ?_) (fun _ => ?_) | refine ob (by omega) ?_ | refine ar_in (by omega) (by omega) ?_ | refine ptr ?_) <;> conv => whnf)
  all_goals exact ⟨by simp [*], rfl⟩
theorem arrayClass_c (a : Int) (h : Heap) : Pure Tryz.prog 257 [.int .i64 a] h (.int .i64 (if a = 0 then -1 else -2)) := by
  refine pur Tryz.sigOk Tryz.func257 Tryz.F257 Tryz.ok257 rfl ?_
  conv => whnf
  repeat' ((first | refine selP (fun _ => ?_) (fun _ => ?_) | refine selNP (fun _ => ?_) (fun _ => ?_) | refine selB (fun _ => ?_) (fun _ => ?_) | refine selNB (fun _ => ?_) (fun _ => ?_) | refine ob (by omega) ?_ | refine ar_in (by omega) (by omega) ?_ | refine ptr ?_) <;> conv => whnf)
  all_goals exact ⟨by simp [*], rfl⟩
theorem nothingOf_c (a : Int) (h : Heap) : Pure Tryz.prog 273 [.int .i64 a] h (.agg #[.bool (!decide (a = 1)), .int .i64 0]) := by
  refine pur Tryz.sigOk Tryz.func273 Tryz.F273 Tryz.ok273 rfl ?_
  conv => whnf
  repeat' ((first | refine selP (fun _ => ?_) (fun _ => ?_) | refine selNP (fun _ => ?_) (fun _ => ?_) | refine selB (fun _ => ?_) (fun _ => ?_) | refine selNB (fun _ => ?_) (fun _ => ?_) | refine ob (by omega) ?_ | refine ar_in (by omega) (by omega) ?_ | refine ptr ?_) <;> conv => whnf)
  all_goals exact ⟨rfl, rfl⟩
theorem covers_c (c : Ctc) (n : Int) (h : Heap) : Pure Tryz.prog 190 [.agg #[.int .i64 c.lo, .int .i64 c.hi, .int .i64 c.to, .int .i64 c.cls], .int .i64 n] h (.bool (decide (c.lo ≤ n ∧ n < c.hi))) := by
  refine pur Tryz.sigOk Tryz.func190 Tryz.F190 Tryz.ok190 rfl ?_
  conv => whnf
  repeat' ((first | refine selP (fun _ => ?_) (fun _ => ?_) | refine selNP (fun _ => ?_) (fun _ => ?_) | refine selB (fun _ => ?_) (fun _ => ?_) | refine selNB (fun _ => ?_) (fun _ => ?_) | refine ob (by omega) ?_ | refine ar_in (by omega) (by omega) ?_ | refine ptr ?_) <;> conv => whnf)
  all_goals exact ⟨by simp; omega, rfl⟩
theorem within_c (a n b : Int) (h : Heap) : Pure Tryz.prog 47 [.int .i64 a, .int .i64 n, .int .i64 b] h (.bool (decide (a ≤ n ∧ n ≤ b))) := by
  refine pur Tryz.sigOk Tryz.func47 Tryz.F47 Tryz.ok47 rfl ?_
  conv => whnf
  repeat' ((first | refine selP (fun _ => ?_) (fun _ => ?_) | refine selNP (fun _ => ?_) (fun _ => ?_) | refine selB (fun _ => ?_) (fun _ => ?_) | refine selNB (fun _ => ?_) (fun _ => ?_) | refine ob (by omega) ?_ | refine ar_in (by omega) (by omega) ?_ | refine ptr ?_) <;> conv => whnf)
  all_goals exact ⟨by simp; omega, rfl⟩
def typeOf (c : Int) : Int := if c = -1 then 3 else if c = -2 then 4 else 8 + c
theorem objType_c (c : Int) (h : Heap) (hc : -2 ≤ c ∧ c ≤ 1000) : Pure Tryz.prog 277 [.int .i64 c] h (.int .i64 (typeOf c)) := by
  refine pur Tryz.sigOk Tryz.func277 Tryz.F277 Tryz.ok277 rfl ?_
  conv => whnf
  repeat' ((first | refine selP (fun _ => ?_) (fun _ => ?_) | refine selNP (fun _ => ?_) (fun _ => ?_) | refine selB (fun _ => ?_) (fun _ => ?_) | refine selNB (fun _ => ?_) (fun _ => ?_) | refine ob (by omega) ?_ | refine ar_in (by omega) (by omega) ?_ | refine ptr ?_) <;> conv => whnf)
  all_goals exact ⟨by simp [typeOf, *], rfl⟩
end Go.Proofs
namespace Go.Proofs
open Go.Vc
set_option maxRecDepth 100000
set_option maxHeartbeats 4000000
def tyIn (cs : List Cls) (a b : Int) : Bool :=
  if a = b ∨ b = 0 then true else if a = 2 then decide (2 ≤ b) else if a < 2 ∨ b < 8 then false else if a < 8 then decide (b = 8) else up cs (a - 8) (b - 8)
theorem l2Ref_c (a : Int) (h : Heap) : Pure Tryz.prog 160 [.int .i64 a] h (.bool (decide (2 ≤ a))) := by
  refine pur Tryz.sigOk Tryz.func160 Tryz.F160 Tryz.ok160 rfl ?_
  conv => whnf
  exact ⟨rfl, rfl⟩
theorem l2In_c (p : Option Addr) (n c : Nat) (cs : List Cls) (a b : Int) (h : Heap) (hr : ClsS h (.slice p n c) cs) (ok : CsOk cs) (ha : a < 8 + cs.length) (hb : b < 8 + cs.length) :
    Pure Tryz.prog 86 [.slice p n c, .int .i64 a, .int .i64 b] h (.bool (tyIn cs a b)) := by
  have hn := hr.n
  have hl := ok.2.1
  refine pur Tryz.sigOk Tryz.func86 Tryz.F86 Tryz.ok86 rfl ?_
  conv => whnf
  refine selP (fun g1 => ?_) (fun g1 => ?_)
  all_goals conv => whnf
  · exact ⟨by simp [tyIn, g1], rfl⟩
  refine selP (fun g2 => ?_) (fun g2 => ?_)
  all_goals conv => whnf
  · exact ⟨by simp [tyIn, g2], rfl⟩
  refine selP (fun g3 => ?_) (fun g3 => ?_)
  all_goals conv => whnf
  · refine call_p (l2Ref_c _ _) ?_
    conv => whnf
    exact ⟨by unfold tyIn; rw [if_neg (by omega), if_pos g3], rfl⟩
  refine call_p (l2Ref_c _ _) ?_
  conv => whnf
  refine selNP (fun g4 => ?_) (fun g4 => ?_)
  all_goals conv => whnf
  · exact ⟨by unfold tyIn; rw [if_neg (by omega), if_neg g3, if_pos (by omega)], rfl⟩
  refine selP (fun g5 => ?_) (fun g5 => ?_)
  all_goals conv => whnf
  · exact ⟨by unfold tyIn; rw [if_neg (by omega), if_neg g3, if_pos (by omega)], rfl⟩
  refine selP (fun g6 => ?_) (fun g6 => ?_)
  all_goals conv => whnf
  · exact ⟨by unfold tyIn; rw [if_neg (by omega), if_neg g3, if_neg (by omega), if_pos g6], rfl⟩
  · refine ar_in (by omega) (by omega) ?_
    conv => whnf
    refine ar_in (by omega) (by omega) ?_
    conv => whnf
    refine call_p (l2Up_c _ _ _ _ _ _ _ hr ok (by omega) (by omega) (by omega)) ?_
    conv => whnf
    exact ⟨by unfold tyIn; rw [if_neg (by omega), if_neg g3, if_neg (by omega), if_neg g6], rfl⟩
theorem classKind_eq (c d : Int) (w : World) : (Go.binOp .eql 224 (.iface 231 (.agg #[.int .i64 c])) (.iface 231 (.agg #[.int .i64 d]))).run Tryz.prog w = .ok (.bool (c == d)) w :=
  by
  refine run_ifeq c d (fun w => rfl) (fun w => rfl) rfl rfl ?_ ?_ rfl ?_ w
  · kernel_rfl
  · decide
  · intro x w; rfl
theorem arrayKind_eq (c d : Bool) (w : World) : (Go.binOp .eql 224 (.iface 229 (.agg #[.bool c])) (.iface 229 (.agg #[.bool d]))).run Tryz.prog w = .ok (.bool (c == d)) w := by
  refine run_ifeqB c d (fun w => rfl) (fun w => rfl) rfl rfl ?_ ?_ rfl ?_ w
  · kernel_rfl
  · decide
  · intro x w; rfl
theorem kindIn_c (p : Option Addr) (n c : Nat) (cs : List Cls) (a b : Int) (h : Heap) (hr : ClsS h (.slice p n c) cs) (ok : CsOk cs)
    (ha : a = 0 ∨ a = 1 ∨ a = 2 ∨ a = 3 ∨ a = 4 ∨ (8 ≤ a ∧ a < 8 + cs.length)) (hb : b = 0 ∨ b = 1 ∨ b = 2 ∨ b = 3 ∨ b = 4 ∨ (8 ≤ b ∧ b < 8 + cs.length)) :
    Pure Tryz.prog 276 [.slice p n c, kindV cs.length a, kindV cs.length b] h (.bool (tyIn cs a b)) := by
  have hn := hr.n
  have hl := ok.2.1
  have hka : 8 ≤ a ∧ a < 8 + cs.length → kindV cs.length a = .iface 231 (.agg #[.int .i64 (a - 8)]) := by intro hx; simp only [kindV]; (repeat' split) <;> first | rfl | (exfalso; omega)
  have hkb : 8 ≤ b ∧ b < 8 + cs.length → kindV cs.length b = .iface 231 (.agg #[.int .i64 (b - 8)]) := by intro hx; simp only [kindV]; (repeat' split) <;> first | rfl | (exfalso; omega)
  have k0 : ∀ m : Nat, kindV m 0 = .iface 263 (.agg #[]) := fun m => by simp [kindV]
  have k1 : ∀ m : Nat, kindV m 1 = .iface 227 (.agg #[]) := fun m => by simp [kindV]
  have k2 : ∀ m : Nat, kindV m 2 = .iface 264 (.agg #[]) := fun m => by simp [kindV]
  have k3 : ∀ m : Nat, kindV m 3 = .iface 229 (.agg #[.bool false]) := fun m => by simp [kindV]
  have k4 : ∀ m : Nat, kindV m 4 = .iface 229 (.agg #[.bool true]) := fun m => by simp [kindV]
  rcases ha with rfl | rfl | rfl | rfl | rfl | ha <;> rcases hb with rfl | rfl | rfl | rfl | rfl | hb
  all_goals (try simp only [k0, k1, k2, k3, k4])
  all_goals (try rw [hka (by assumption)])
  all_goals (try rw [hkb (by assumption)])
  all_goals
    refine pur Tryz.sigOk Tryz.func276 Tryz.F276 Tryz.ok276 rfl ?_
    conv => whnf
    repeat' ((first
      | refine selP (fun _ => ?_) (fun _ => ?_)
      | refine selB (fun _ => ?_) (fun _ => ?_)
      | refine raw_eq (r := .bool true) rfl rfl (fun w => rfl) (fun w => rfl) ?_
      | refine raw_eq (r := .bool false) rfl rfl (fun w => rfl) (fun w => rfl) ?_
      | refine raw_eq rfl rfl (fun w => rfl) (classKind_eq _ _) ?_
      | refine raw_eq rfl rfl (fun w => rfl) (arrayKind_eq _ _) ?_
      | refine raw_ta rfl (fun w => rfl) ?_
      | refine call_p (classUp_c _ _ _ _ _ _ _ hr ok (by omega) (by omega)) ?_) <;> conv => whnf)
    all_goals first
      | exact ⟨rfl, rfl⟩
      | (refine ⟨?_, rfl⟩; congr 1; unfold tyIn; (repeat' split) <;> first | rfl | (exfalso; omega) | (rw [Bool.eq_iff_iff]; simp; omega))
def isTy (n : Nat) (a : Int) : Prop := a = 0 ∨ a = 1 ∨ a = 2 ∨ a = 3 ∨ a = 4 ∨ (8 ≤ a ∧ a < 8 + n)
theorem typeIn_c (p : Option Addr) (n c : Nat) (cs : List Cls) (a b : Int) (h : Heap) (hr : ClsS h (.slice p n c) cs) (ok : CsOk cs) (ha : isTy cs.length a) (hb : isTy cs.length b) :
    Pure Tryz.prog 263 [.slice p n c, .int .i64 a, .int .i64 b] h (.bool (tyIn cs a b)) := by
  have hn := hr.n
  subst hn
  have hl := ok.2.1
  have hI : I64 a ∧ I64 b := by
    unfold isTy at ha hb
    refine ⟨⟨?_, ?_⟩, ⟨?_, ?_⟩⟩ <;> omega
  have hna : ∃ t v, kindV cs.length a = .iface t v := by
    rcases ha with rfl | rfl | rfl | rfl | rfl | ha
    all_goals first | exact ⟨_, _, rfl⟩ | exact ⟨231, .agg #[.int .i64 (a - 8)], by simp only [kindV]; (repeat' split) <;> first | rfl | (exfalso; omega)⟩
  have hnb : ∃ t v, kindV cs.length b = .iface t v := by
    rcases hb with rfl | rfl | rfl | rfl | rfl | hb
    all_goals first | exact ⟨_, _, rfl⟩ | exact ⟨231, .agg #[.int .i64 (b - 8)], by simp only [kindV]; (repeat' split) <;> first | rfl | (exfalso; omega)⟩
  obtain ⟨ta, va, hka⟩ := hna
  obtain ⟨tb, vb, hkb⟩ := hnb
  have c1 := kindOf_c cs.length a h (by omega) hI.1
  have c2 := kindOf_c cs.length b h (by omega) hI.2
  have c3 := kindIn_c p cs.length c cs a b h hr ok ha hb
  rw [hka] at c1 c3
  rw [hkb] at c2 c3
  refine pur Tryz.sigOk Tryz.func263 Tryz.F263 Tryz.ok263 rfl ?_
  conv => whnf
  refine call_p c1 ?_
  conv => whnf
  refine call_p c2 ?_
  conv => whnf
  refine raw_eq (r := .bool true) rfl rfl (fun w => rfl) (fun w => rfl) ?_
  conv => whnf
  refine raw_eq (r := .bool true) rfl rfl (fun w => rfl) (fun w => rfl) ?_
  conv => whnf
  refine call_p c3 ?_
  conv => whnf
  exact ⟨rfl, rfl⟩
end Go.Proofs
namespace Go.Proofs
open Go.Vc
set_option maxRecDepth 100000
set_option maxHeartbeats 4000000
def vl2 (x : Vl) : List Value := [.bool x.ref, .int .i64 x.n]
abbrev OwnV (h : Heap) (v : Value) (l : List Vl) (B : List Nat) : Prop := OwnC 2 h v (l.map vl2) B
def OwnO (h : Heap) (x : List Value) (o : Ob) (B : List Nat) : Prop := ∃ v, x = [.int .i64 o.cls, v] ∧ OwnV h v o.vals B
def OwnF (h : Heap) (x : List Value) (f : Frm) (B : List Nat) : Prop := ∃ v1 v2 B1 B2, x = [.int .i64 f.meth, .int .i64 f.pc, v1, v2] ∧ OwnV h v1 f.locals B1 ∧ OwnV h v2 f.stack B2 ∧ B = B1 ++ B2
inductive Rows {α : Type} (R : Heap → List Value → α → List Nat → Prop) (h : Heap) : List (List Value) → List α → List Nat → Prop where
  | nil : Rows R h [] [] []
  | cons {x : List Value} {a : α} {B1 : List Nat} {xs : List (List Value)} {l : List α} {B2 : List Nat} (h1 : R h x a B1) (h2 : Rows R h xs l B2) : Rows R h (x :: xs) (a :: l) (B1 ++ B2)
def OwnL {α : Type} (R : Heap → List Value → α → List Nat → Prop) (sz : Nat) (h : Heap) (v : Value) (l : List α) (B : List Nat) : Prop := ∃ xs B0 B1, OwnC sz h v xs B0 ∧ Rows R h xs l B1 ∧ B = B0 ++ B1
def OwnM (h : Heap) (mc : List Value) (m : Mch) (B : List Nat) : Prop := ∃ vo vf vs B1 B2 B3, mc = [vo, vf, vs, .int .i64 m.steps, .int .i64 m.fin, .bool m.out.ref, .int .i64 m.out.n] ∧
  OwnL OwnO 2 h vo m.objs B1 ∧ OwnL OwnF 4 h vf m.frames B2 ∧ OwnI h vs m.said B3 ∧ B = B1 ++ B2 ++ B3
def Keep (h h' : Heap) (B : List Nat) : Prop := ∀ b ∈ B, ∀ o, h b = some o → h' b = some o
theorem Keep.of_le {h h' : Heap} (hl : h.le h') (B : List Nat) : Keep h h' B := fun b _ o ho => hl b o ho
theorem Keep.sub {h h' : Heap} {A B : List Nat} (hk : Keep h h' B) (hs : ∀ b ∈ A, b ∈ B) : Keep h h' A := fun b hb => hk b (hs b hb)
theorem Keep.l {h h' : Heap} {A B : List Nat} (hk : Keep h h' (A ++ B)) : Keep h h' A := hk.sub fun b hb => List.mem_append.2 (.inl hb)
theorem Keep.r {h h' : Heap} {A B : List Nat} (hk : Keep h h' (A ++ B)) : Keep h h' B := hk.sub fun b hb => List.mem_append.2 (.inr hb)
theorem OwnC.keep {sz : Nat} {h h' : Heap} {v : Value} {xs : List (List Value)} {B : List Nat} (hk : Keep h h' B) (ho : OwnC sz h v xs B) : OwnC sz h' v xs B := by
  obtain ⟨h1, h2⟩ := ho
  refine ⟨h1, h2.imp id ?_⟩
  rintro ⟨b, c, rest, t, e1, e2, e3, e4, rfl⟩
  exact ⟨b, c, rest, t, e1, e2, hk b (by simp) _ e3, e4, rfl⟩
theorem OwnO.keep {h h' : Heap} {x : List Value} {o : Ob} {B : List Nat} (hk : Keep h h' B) (ho : OwnO h x o B) : OwnO h' x o B := by
  obtain ⟨v, h1, h2⟩ := ho
  exact ⟨v, h1, h2.keep hk⟩
theorem OwnF.keep {h h' : Heap} {x : List Value} {f : Frm} {B : List Nat} (hk : Keep h h' B) (ho : OwnF h x f B) : OwnF h' x f B := by
  obtain ⟨v1, v2, B1, B2, h1, h2, h3, rfl⟩ := ho
  exact ⟨v1, v2, B1, B2, h1, h2.keep hk.l, h3.keep hk.r, rfl⟩
def Kept {α : Type} (R : Heap → List Value → α → List Nat → Prop) : Prop := ∀ (h h' : Heap) (x : List Value) (a : α) (B : List Nat), Keep h h' B → R h x a B → R h' x a B
theorem Rows.keep {α : Type} {R : Heap → List Value → α → List Nat → Prop} (hR : Kept R) {h h' : Heap} {xs : List (List Value)} {l : List α} {B : List Nat} (hr : Rows R h xs l B) : Keep h h' B → Rows R h' xs l B := by
  induction hr with
  | nil => exact fun _ => .nil
  | cons h1 _ ih => exact fun hk => .cons (hR _ _ _ _ _ hk.l h1) (ih hk.r)
theorem OwnL.keep {α : Type} {R : Heap → List Value → α → List Nat → Prop} (hR : Kept R) {sz : Nat} {h h' : Heap} {v : Value} {l : List α} {B : List Nat} (hk : Keep h h' B) (ho : OwnL R sz h v l B) : OwnL R sz h' v l B := by
  obtain ⟨xs, B0, B1, h1, h2, rfl⟩ := ho
  exact ⟨xs, B0, B1, h1.keep hk.l, h2.keep hR hk.r, rfl⟩
theorem keptO : Kept OwnO := fun _ _ _ _ _ => OwnO.keep
theorem keptF : Kept OwnF := fun _ _ _ _ _ => OwnF.keep
theorem OwnM.keep {h h' : Heap} {mc : List Value} {m : Mch} {B : List Nat} (hk : Keep h h' B) (ho : OwnM h mc m B) : OwnM h' mc m B := by
  obtain ⟨vo, vf, vs, B1, B2, B3, h1, h2, h3, h4, rfl⟩ := ho
  exact ⟨vo, vf, vs, B1, B2, B3, h1, h2.keep keptO hk.l.l, h3.keep keptF hk.l.r, h4.keep hk.r, rfl⟩
theorem Rows.len {α : Type} {R : Heap → List Value → α → List Nat → Prop} {h : Heap} {xs : List (List Value)} {l : List α} {B : List Nat} (hr : Rows R h xs l B) : xs.length = l.length := by
  induction hr with
  | nil => rfl
  | cons _ _ ih => simp [ih]
theorem Rows.app {α : Type} {R : Heap → List Value → α → List Nat → Prop} {h : Heap} {xs ys : List (List Value)} {l k : List α} {A B : List Nat} (h1 : Rows R h xs l A) (h2 : Rows R h ys k B) : Rows R h (xs ++ ys) (l ++ k) (A ++ B) := by
  induction h1 with
  | nil => exact h2
  | cons a _ ih => simp only [List.cons_append, List.append_assoc]; exact .cons a ih
theorem Rows.one {α : Type} {R : Heap → List Value → α → List Nat → Prop} {h : Heap} {x : List Value} {a : α} {B : List Nat} (h1 : R h x a B) : Rows R h [x] [a] B := by
  have := Rows.cons h1 (Rows.nil (R := R) (h := h)); simpa using this
theorem Rows.split {α : Type} {R : Heap → List Value → α → List Nat → Prop} {h : Heap} : ∀ {l k : List α} {xs : List (List Value)} {B : List Nat}, Rows R h xs (l ++ k) B →
    ∃ ys zs A C, xs = ys ++ zs ∧ B = A ++ C ∧ Rows R h ys l A ∧ Rows R h zs k C
  | [], k, xs, B, hr => ⟨[], xs, [], B, rfl, rfl, .nil, hr⟩
  | a :: l, k, xs, B, hr => by
    cases hr with
    | cons h1 h2 =>
      obtain ⟨ys, zs, A, C, rfl, rfl, h3, h4⟩ := Rows.split h2
      exact ⟨_ :: ys, zs, _, C, rfl, by simp, .cons h1 h3, h4⟩
theorem Rows.single {α : Type} {R : Heap → List Value → α → List Nat → Prop} {h : Heap} {xs : List (List Value)} {a : α} {B : List Nat} (hr : Rows R h xs [a] B) : ∃ x, xs = [x] ∧ R h x a B := by
  cases hr with
  | cons h1 h2 => cases h2; exact ⟨_, rfl, by simpa using h1⟩
theorem OwnC.in {sz : Nat} {h : Heap} {v : Value} {xs : List (List Value)} {B : List Nat} (ho : OwnC sz h v xs B) : ∀ b ∈ B, ∃ o, h b = some o := by
  obtain ⟨_, ⟨_, _, rfl⟩ | ⟨b, c, rest, t, _, _, e3, _, rfl⟩⟩ := ho
  · simp
  · simp [e3]
def InH {α : Type} (R : Heap → List Value → α → List Nat → Prop) : Prop := ∀ (h : Heap) (x : List Value) (a : α) (B : List Nat), R h x a B → ∀ b ∈ B, ∃ o, h b = some o
theorem Rows.in {α : Type} {R : Heap → List Value → α → List Nat → Prop} (hR : InH R) {h : Heap} {xs : List (List Value)} {l : List α} {B : List Nat} (hr : Rows R h xs l B) : ∀ b ∈ B, ∃ o, h b = some o := by
  induction hr with
  | nil => simp
  | cons h1 _ ih => exact fun b hb => (List.mem_append.1 hb).elim (hR _ _ _ _ h1 b) (ih b)
theorem OwnO.in {h : Heap} {x : List Value} {o : Ob} {B : List Nat} (ho : OwnO h x o B) : ∀ b ∈ B, ∃ o, h b = some o := by
  obtain ⟨v, _, h2⟩ := ho; exact h2.in
theorem OwnF.in {h : Heap} {x : List Value} {f : Frm} {B : List Nat} (ho : OwnF h x f B) : ∀ b ∈ B, ∃ o, h b = some o := by
  obtain ⟨v1, v2, B1, B2, _, h2, h3, rfl⟩ := ho
  exact fun b hb => (List.mem_append.1 hb).elim (h2.in b) (h3.in b)
theorem inO : InH OwnO := fun _ _ _ _ => OwnO.in
theorem inF : InH OwnF := fun _ _ _ _ => OwnF.in
theorem OwnL.in {α : Type} {R : Heap → List Value → α → List Nat → Prop} (hR : InH R) {sz : Nat} {h : Heap} {v : Value} {l : List α} {B : List Nat} (ho : OwnL R sz h v l B) : ∀ b ∈ B, ∃ o, h b = some o := by
  obtain ⟨xs, B0, B1, h1, h2, rfl⟩ := ho
  exact fun b hb => (List.mem_append.1 hb).elim (h1.in b) (h2.in hR b)
theorem OwnM.in {h : Heap} {mc : List Value} {m : Mch} {B : List Nat} (ho : OwnM h mc m B) : ∀ b ∈ B, ∃ o, h b = some o := by
  obtain ⟨vo, vf, vs, B1, B2, B3, _, h2, h3, h4, rfl⟩ := ho
  intro b hb
  rcases List.mem_append.1 hb with hb | hb
  · rcases List.mem_append.1 hb with hb | hb
    · exact h2.in inO b hb
    · exact h3.in inF b hb
  · exact h4.in b hb
structure Ev (h h' : Heap) (S S' : List Nat) : Prop where
  old : ∀ b, h b ≠ none → b ∉ S → h' b = h b
  new : ∀ b ∈ S', b ∈ S ∨ h b = none
theorem Ev.refl (h : Heap) (S : List Nat) : Ev h h S S := ⟨fun _ _ _ => rfl, fun _ hb => .inl hb⟩
theorem Ev.trans {h h1 h2 : Heap} {S S1 S2 : List Nat} (a : Ev h h1 S S1) (b : Ev h1 h2 S1 S2) : Ev h h2 S S2 where
  old c hc hs := by
    have h1c := a.old c hc hs
    rw [b.old c (by rw [h1c]; exact hc) (fun hm => (a.new c hm).elim hs hc), h1c]
  new c hc := by
    rcases b.new c hc with hm | hm
    · exact a.new c hm
    · by_cases hs : c ∈ S
      · exact .inl hs
      · by_cases hn : h c = none
        · exact .inr hn
        · rw [a.old c hn hs] at hm; exact absurd hm hn
theorem Ev.le {h0 h h' : Heap} {S S' : List Nat} (ev : Ev h h' S S') (hl : h0.le h) (hs : ∀ b ∈ S, h0 b = none) : h0.le h' := by
  intro b o ho
  have h1 := hl b o ho
  rw [ev.old b (by rw [h1]; simp) (fun hm => by rw [hs b hm] at ho; cases ho)]
  exact h1
theorem Ev.fresh {h0 h h' : Heap} {S S' : List Nat} (ev : Ev h h' S S') (hl : h0.le h) (hs : ∀ b ∈ S, h0 b = none) : ∀ b ∈ S', h0 b = none := by
  intro b hb
  rcases ev.new b hb with hm | hm
  · exact hs b hm
  · cases hh : h0 b with
    | none => rfl
    | some o => rw [hl b o hh] at hm; cases hm
theorem Ev.keep {h h' : Heap} {S S' A : List Nat} (ev : Ev h h' S S') (hd : ∀ b ∈ A, b ∉ S) : Keep h h' A := fun b hb o ho => by rw [ev.old b (by rw [ho]; simp) (hd b hb)]; exact ho
theorem Ev.of_le {h h' : Heap} {S : List Nat} (hl : h.le h') (S' : List Nat) (hs : ∀ b ∈ S', b ∈ S ∨ h b = none) : Ev h h' S S' where
  old b hb _ := by
    cases hh : h b with
    | none => exact absurd hh hb
    | some o => exact hl b o hh
  new := hs
theorem Ev.more {h h' : Heap} {S S' : List Nat} (ev : Ev h h' S S') (A : List Nat) : Ev h h' (A ++ S) (A ++ S') where
  old b hb hs := ev.old b hb (fun hm => hs (List.mem_append.2 (.inr hm)))
  new b hb := by
    rcases List.mem_append.1 hb with hb | hb
    · exact .inl (List.mem_append.2 (.inl hb))
    · exact (ev.new b hb).imp (fun hm => List.mem_append.2 (.inr hm)) id
theorem rd_cells {h : Heap} {b : Nat} {cs : List Value} {t : TypeId} {fz : Nat × Nat} (hb : h b = some (.cells cs.toArray t fz)) {i : Nat} {v : Value} (hv : cs[i]? = some v) : rd h b i = some v := by
  simp [rd, hb, hv]
theorem get_mid {pre x post : List Value} {i : Nat} {v : Value} (hv : x[i]? = some v) : (pre ++ x ++ post)[pre.length + i]? = some v := by
  have hi : i < x.length := (List.getElem?_eq_some_iff.1 hv).1
  rw [List.append_assoc, List.getElem?_append_right (by omega), Nat.add_sub_cancel_left, List.getElem?_append_left hi]
  exact hv
theorem rd_mid {h : Heap} {b : Nat} {pre x post : List Value} {t : TypeId} {fz : Nat × Nat} (hb : h b = some (.cells (pre ++ x ++ post).toArray t fz)) {i n : Nat} {v : Value} (hn : n = pre.length + i) (hv : x[i]? = some v) : rd h b n = some v := by
  subst hn; exact rd_cells hb (get_mid hv)
theorem wr_mid {pre x post : List Value} {i n : Nat} {v : Value} (hn : n = pre.length + i) (hi : i < x.length) : wrls (pre ++ x ++ post) n [v] = pre ++ x.set i v ++ post := by
  subst hn
  simp only [wrls, wrl_eq]
  rw [List.append_assoc, List.set_append, if_neg (by omega), Nat.add_sub_cancel_left, List.set_append, if_pos hi, List.append_assoc]
end Go.Proofs
namespace Go.Proofs
open Go.Vc
set_option maxRecDepth 100000
set_option maxHeartbeats 4000000
def Nd (l : List Nat) : Prop := ∀ a, l.count a ≤ 1
theorem Nd.perm {l k : List Nat} (h : Nd l) (hp : ∀ a, k.count a = l.count a) : Nd k := fun a => by rw [hp a]; exact h a
theorem Nd.less {l k : List Nat} (h : Nd l) (hp : ∀ a, k.count a ≤ l.count a) : Nd k := fun a => Nat.le_trans (hp a) (h a)
theorem Nd.swap {A X X' : List Nat} (h : Nd (A ++ X)) (hx : Nd X') (hn : ∀ b ∈ X', b ∈ X ∨ b ∉ A) : Nd (A ++ X') := by
  intro a
  have h1 := h a
  have h2 := hx a
  simp only [List.count_append] at h1 ⊢
  by_cases hm : a ∈ X'
  · have : A.count a = 0 := by
      rcases hn a hm with h3 | h3
      · have := List.count_pos_iff.2 h3; omega
      · exact List.count_eq_zero.2 h3
    omega
  · have := List.count_eq_zero.2 hm
    omega
theorem OwnC.nd {sz : Nat} {h : Heap} {v : Value} {xs : List (List Value)} {B : List Nat} (ho : OwnC sz h v xs B) : Nd B := by
  obtain ⟨_, ⟨_, _, rfl⟩ | ⟨b, c, rest, t, _, _, _, _, rfl⟩⟩ := ho
  · intro a; simp
  · intro a; simp only [List.count_cons, List.count_nil]; split <;> omega
theorem mem_of_count {l k : List Nat} (hp : ∀ a, k.count a = l.count a) (b : Nat) : b ∈ k ↔ b ∈ l := by
  rw [← List.count_pos_iff, ← List.count_pos_iff, hp b]
theorem OwnL.at {α : Type} {R : Heap → List Value → α → List Nat → Prop} (hR : Kept R) {sz : Nat} {h : Heap} {v : Value} {l1 l2 : List α} {a : α} {B : List Nat} (ho : OwnL R sz h v (l1 ++ a :: l2) B) :
    ∃ b c x pre post t Bo Bi, v = .slice (some ⟨b, 0, none⟩) (l1.length + l2.length + 1) c ∧ l1.length + l2.length + 1 ≤ c ∧ h b = some (.cells (pre ++ x ++ post).toArray t (0, 0)) ∧ pre.length = l1.length * sz ∧ x.length = sz ∧ R h x a Bi ∧
      (∀ n, B.count n = (b :: Bo ++ Bi).count n) ∧
      ∀ h' x' a' Bi', h' b = some (.cells (pre ++ x' ++ post).toArray t (0, 0)) → x'.length = sz → R h' x' a' Bi' → Keep h h' Bo → ∃ B', OwnL R sz h' v (l1 ++ a' :: l2) B' ∧ ∀ n, B'.count n = (b :: Bo ++ Bi').count n := by
  obtain ⟨xs, B0, B1, ⟨hx, hc⟩, h2, rfl⟩ := ho
  obtain ⟨ys, zs, A, C, rfl, rfl, h3, h4⟩ := Rows.split h2
  cases h4 with
  | @cons x _ Bi zs _ C h5 h6 =>
  have hl1 := h3.len
  have hl2 := h6.len
  rcases hc with ⟨_, hn, _⟩ | ⟨b, c, rest, t, rfl, hcap, hb, hlen, rfl⟩
  · simp at hn
  refine ⟨b, c, x, ys.flatten, zs.flatten ++ rest, t, A ++ C, Bi, ?_, ?_, ?_, ?_, hx x (by simp), h5, ?_, ?_⟩
  · simp [hl1, hl2]; omega
  · simp [hl1, hl2] at hcap; omega
  · rw [hb]; simp
  · rw [flat_length (sz := sz) (fun y hy => hx y (by simp [hy])), hl1]
  · intro n; simp [List.count_append, List.count_cons]; omega
  · intro h' x' a' Bi' hb' hx' hR' hk
    refine ⟨[b] ++ (A ++ (Bi' ++ C)), ⟨ys ++ x' :: zs, [b], A ++ (Bi' ++ C), ⟨?_, .inr ⟨b, c, rest, t, by simp, by simpa using hcap, by rw [hb']; simp, ?_, rfl⟩⟩, (h3.keep hR hk.l).app (.cons hR' (h6.keep hR hk.r)), rfl⟩, ?_⟩
    · intro y hy
      simp only [List.mem_append, List.mem_cons] at hy
      rcases hy with hy | rfl | hy
      · exact hx y (by simp [hy])
      · exact hx'
      · exact hx y (by simp [hy])
    · have := hx x (by simp)
      simp only [List.flatten_append, List.flatten_cons, List.length_append] at hlen ⊢
      omega
    · intro n; simp [List.count_append, List.count_cons]; omega
theorem OwnL.pop {α : Type} {R : Heap → List Value → α → List Nat → Prop} {sz : Nat} {h : Heap} {p : Option Addr} {n c : Nat} {l : List α} {a : α} {B : List Nat} (ho : OwnL R sz h (.slice p n c) (l ++ [a]) B) :
    n = l.length + 1 ∧ ∃ B', OwnL R sz h (.slice p l.length c) l B' ∧ ∀ n, B'.count n ≤ B.count n := by
  obtain ⟨xs, B0, B1, ⟨hx, hc⟩, h2, rfl⟩ := ho
  obtain ⟨ys, zs, A, C, rfl, rfl, h3, h4⟩ := Rows.split h2
  obtain ⟨x, rfl, h5⟩ := h4.single
  have hl1 := h3.len
  rcases hc with ⟨_, hn, _⟩ | ⟨b, c', rest, t, he, hcap, hb, hlen, rfl⟩
  · simp at hn
  simp only [Value.slice.injEq] at he
  obtain ⟨rfl, rfl, rfl⟩ := he
  refine ⟨by simp [hl1], [b] ++ A, ⟨ys, [b], A, ⟨fun y hy => hx y (by simp [hy]), .inr ⟨b, c, x ++ rest, t, by simp [hl1], by simp [hl1] at hcap ⊢; omega, by rw [hb]; simp, by simpa using hlen, rfl⟩⟩, h3, rfl⟩, fun m => ?_⟩
  simp [List.count_append, List.count_cons]
theorem OwnC.at {sz : Nat} {h : Heap} {v : Value} {xs ys : List (List Value)} {x : List Value} {B : List Nat} (ho : OwnC sz h v (xs ++ x :: ys) B) :
    ∃ b c pre post t, v = .slice (some ⟨b, 0, none⟩) (xs.length + ys.length + 1) c ∧ h b = some (.cells (pre ++ x ++ post).toArray t (0, 0)) ∧ pre.length = xs.length * sz ∧ x.length = sz ∧ B = [b] ∧
      ∀ h' x', h' b = some (.cells (pre ++ x' ++ post).toArray t (0, 0)) → x'.length = sz → OwnC sz h' v (xs ++ x' :: ys) B := by
  obtain ⟨hx, hc⟩ := ho
  rcases hc with ⟨_, hn, _⟩ | ⟨b, c, rest, t, rfl, hcap, hb, hlen, rfl⟩
  · simp at hn
  refine ⟨b, c, xs.flatten, ys.flatten ++ rest, t, by simp [Nat.add_assoc], by rw [hb]; simp, flat_length (sz := sz) (fun y hy => hx y (by simp [hy])), hx x (by simp), rfl, ?_⟩
  intro h' x' hb' hx'
  refine ⟨?_, .inr ⟨b, c, rest, t, by simp, by simpa using hcap, by rw [hb']; simp, ?_, rfl⟩⟩
  · intro y hy
    simp only [List.mem_append, List.mem_cons] at hy
    rcases hy with hy | rfl | hy
    · exact hx y (by simp [hy])
    · exact hx'
    · exact hx y (by simp [hy])
  · have := hx x (by simp)
    simp only [List.flatten_append, List.flatten_cons, List.length_append] at hlen ⊢
    omega
structure MaH (h0 h : Heap) (bm : Nat) (pre post : List Value) (M : Mch) (B : List Nat) : Prop where
  le : h0.le h
  cell : ∃ mc t, h bm = some (.cells (pre ++ mc ++ post).toArray t (0, 0)) ∧ OwnM h mc M B
  nd : Nd (bm :: B)
  fr : ∀ b ∈ bm :: B, h0 b = none
def mcells (vo vf vs : Value) (M : Mch) : List Value := [vo, vf, vs, .int .i64 M.steps, .int .i64 M.fin, .bool M.out.ref, .int .i64 M.out.n]
theorem MaH.top {h0 h : Heap} {bm : Nat} {pre post : List Value} {M : Mch} {B : List Nat} {fs : List Frm} {f : Frm} (hM : MaH h0 h bm pre post M B) (hf : M.frames = fs ++ [f]) :
    ∃ vo vs bf c tm t q r v1 v2 Bo B1 B2, h bm = some (.cells (pre ++ mcells vo (.slice (some ⟨bf, 0, none⟩) (fs.length + 1) c) vs M ++ post).toArray tm (0, 0)) ∧
      h bf = some (.cells (q ++ [.int .i64 f.meth, .int .i64 f.pc, v1, v2] ++ r).toArray t (0, 0)) ∧ q.length = fs.length * 4 ∧ OwnV h v1 f.locals B1 ∧ OwnV h v2 f.stack B2 ∧
      Nd (bm :: bf :: (Bo ++ B1 ++ B2)) ∧ (∀ b ∈ bm :: bf :: (Bo ++ B1 ++ B2), ∃ o, h b = some o) ∧ (∀ b, b ∈ bm :: B ↔ b ∈ bm :: bf :: (Bo ++ B1 ++ B2)) ∧
      ∀ h' f' v1' v2' B1' B2', h' bm = h bm → h' bf = some (.cells (q ++ [.int .i64 f'.meth, .int .i64 f'.pc, v1', v2'] ++ r).toArray t (0, 0)) → OwnV h' v1' f'.locals B1' → OwnV h' v2' f'.stack B2' → Keep h h' Bo →
        Nd (bm :: bf :: (Bo ++ B1' ++ B2')) → Ev h h' (bm :: B) (bm :: bf :: (Bo ++ B1' ++ B2')) → ∃ B', MaH h0 h' bm pre post { M with frames := fs ++ [f'] } B' ∧ Ev h h' (bm :: B) (bm :: B') := by
  obtain ⟨hle, ⟨mc, tm, hb, vo, vf, vs, Bo, Bf, Bs, rfl, ho, hfr, hs, rfl⟩, nd, fr⟩ := hM
  rw [hf] at hfr
  obtain ⟨bf, c, x, q, r, t, Bx, Bi, rfl, _, hbf, hq, _, ⟨v1, v2, B1, B2, rfl, g1, g2, rfl⟩, hcnt, reb⟩ := hfr.at keptF
  have hin : ∀ b ∈ bm :: (Bo ++ Bf ++ Bs), ∃ o, h b = some o := by
    intro b hb'
    rcases List.mem_cons.1 hb' with rfl | hb'
    · exact ⟨_, hb⟩
    · refine OwnM.in (h := h) (mc := mcells vo _ vs M) (m := M) ⟨vo, _, vs, Bo, Bf, Bs, rfl, ho, by rw [hf]; exact hfr, hs, rfl⟩ b hb'
  have hp : ∀ a, (bm :: bf :: ((Bo ++ Bx ++ Bs) ++ B1 ++ B2)).count a = (bm :: (Bo ++ Bf ++ Bs)).count a := by
    intro a
    have := hcnt a
    simp only [List.count_append, List.count_cons] at this ⊢
    omega
  refine ⟨vo, vs, bf, c, tm, t, q, r, v1, v2, Bo ++ Bx ++ Bs, B1, B2, by simpa [mcells] using hb, hbf, hq, g1, g2, nd.perm hp, fun b hb' => hin b ((mem_of_count hp b).1 hb'), fun b => (mem_of_count hp b).symm, ?_⟩
  intro h' f' v1' v2' B1' B2' k1 k2 k3 k4 k5 k6 k7
  obtain ⟨Bf', o1, o2⟩ := reb h' _ f' (B1' ++ B2') k2 rfl ⟨v1', v2', B1', B2', rfl, k3, k4, rfl⟩ k5.l.r
  have hp' : ∀ a, (bm :: (Bo ++ Bf' ++ Bs)).count a = (bm :: bf :: ((Bo ++ Bx ++ Bs) ++ B1' ++ B2')).count a := by
    intro a
    have := o2 a
    simp only [List.count_append, List.count_cons] at this ⊢
    omega
  have ev : Ev h h' (bm :: (Bo ++ Bf ++ Bs)) (bm :: (Bo ++ Bf' ++ Bs)) := ⟨k7.old, fun b hb' => k7.new b ((mem_of_count hp' b).1 hb')⟩
  refine ⟨Bo ++ Bf' ++ Bs, ⟨ev.le hle fr, ⟨_, tm, by rw [k1, hb], vo, _, vs, Bo, Bf', Bs, rfl, ho.keep keptO k5.l.l, o1, hs.keep k5.r, rfl⟩, k6.perm hp', ev.fresh hle fr⟩, ev⟩
end Go.Proofs
namespace Go.Proofs
open Go.Vc
set_option maxRecDepth 100000
set_option maxHeartbeats 4000000
def wrongP (k : Int) : List PanicEntry := [{ v := .iface 141 (.agg #[.int .i64 k]), recovered := false }]
def stp (bf off bm : Nat) (ms us : List Value) : List Value := .pointer (some ⟨bf, off, none⟩) :: (ms ++ us ++ [.pointer (some ⟨bm, 0, none⟩)])
def Pn (h0 : Heap) (bm : Nat) (h : Heap) : Prop := h0.le h ∧ ∃ (cs : List Value) (t : TypeId), h bm = some (.cells cs.toArray t (0, 0)) ∧ cs.length = 7
theorem MaH.pn' {h0 h h' : Heap} {bm : Nat} {M : Mch} {B : List Nat} (hM : MaH h0 h bm [] [] M B) (hl : h.le h') : Pn h0 bm h' := by
  obtain ⟨le, ⟨mc, t, hb, vo, vf, vs, B1, B2, B3, rfl, _⟩, _, _⟩ := hM
  exact ⟨Heap.le_trans le hl, _, t, hl _ _ hb, rfl⟩
theorem MaH.pn {h0 h : Heap} {bm : Nat} {M : Mch} {B : List Nat} (hM : MaH h0 h bm [] [] M B) : Pn h0 bm h := hM.pn' (Heap.le_refl h)
structure SpH (h0 h : Heap) (bs bm bf off : Nat) (u : Unt) (m : Mth) (fs : List Frm) (f : Frm) (M : Mch) (B : List Nat) : Prop where
  ma : MaH h0 h bm [] [] M B
  frames : M.frames = fs ++ [f]
  top : off = fs.length * 4 ∧ ∃ c, rd h bm 1 = some (.slice (some ⟨bf, 0, none⟩) (fs.length + 1) c)
  st : ∃ ms us t, h bs = some (.cells (stp bf off bm ms us).toArray t (0, 0)) ∧ UntR h0 us u ∧ MthR h0 ms m
  out : bs ∉ bm :: B
theorem SpH.lens {h0 h : Heap} {bs bm bf off : Nat} {u : Unt} {m : Mth} {fs : List Frm} {f : Frm} {M : Mch} {B : List Nat} (hS : SpH h0 h bs bm bf off u m fs f M B) :
    ∃ t q r v1 v2 B1 B2, h bf = some (.cells (q ++ [.int .i64 f.meth, .int .i64 f.pc, v1, v2] ++ r).toArray t (0, 0)) ∧ q.length = off ∧ OwnV h v1 f.locals B1 ∧ OwnV h v2 f.stack B2 ∧ Nd (B1 ++ B2) ∧ (∀ b ∈ bf :: (B1 ++ B2), h0 b = none) ∧
      (∀ b, b ∈ B1 ++ B2 → b ≠ bf ∧ b ≠ bm ∧ b ≠ bs) ∧ bf ≠ bm ∧ bf ≠ bs ∧
      ∀ h' f' v1' v2' B1' B2', h' bf = some (.cells (q ++ [.int .i64 f'.meth, .int .i64 f'.pc, v1', v2'] ++ r).toArray t (0, 0)) → (∀ b, b ∉ bf :: (B1 ++ B2) → h b ≠ none → h' b = h b) → OwnV h' v1' f'.locals B1' → OwnV h' v2' f'.stack B2' →
        (∀ b ∈ B1' ++ B2', b ∈ B1 ++ B2 ∨ h b = none) → Nd (B1' ++ B2') → ∃ B', SpH h0 h' bs bm bf off u m fs f' { M with frames := fs ++ [f'] } B' ∧ Ev h h' (bm :: B) (bm :: B') := by
  obtain ⟨hM, hf, ⟨hoff, c0, htop⟩, ⟨ms, us, ts, hst, hu, hm⟩, hout⟩ := hS
  obtain ⟨vo, vs, bf', c, tm, t, q, r, v1, v2, Bo, B1, B2, hb, hbf, hq, o1, o2, nd, hin, hmem, reb⟩ := hM.top hf
  have e1 : rd h bm 1 = some (.slice (some ⟨bf', 0, none⟩) (fs.length + 1) c) := rd_mid hb (i := 1) (by simp) rfl
  rw [htop] at e1
  simp only [Option.some.injEq, Value.slice.injEq, Addr.mk.injEq, and_true, true_and] at e1
  obtain ⟨rfl, rfl⟩ := e1
  have hcnt : ∀ a, (bm :: bf :: (Bo ++ B1 ++ B2)).count a ≤ 1 := nd
  have ne1 : ∀ b, b ∈ B1 ++ B2 → b ≠ bf ∧ b ≠ bm ∧ b ≠ bs ∧ b ∉ Bo := by
    intro b hb'
    have hp := List.count_pos_iff.2 hb'
    have hc := hcnt b
    simp only [List.count_append, List.count_cons] at hp hc
    refine ⟨?_, ?_, ?_, ?_⟩
    · rintro rfl; simp at hc; omega
    · rintro rfl; simp at hc; omega
    · rintro rfl; exact hout ((hmem _).2 (by simp at hb' ⊢; grind))
    · intro hx; have := List.count_pos_iff.2 hx; omega
  have ne2 : bf ≠ bm := by
    rintro rfl
    have hc := hcnt bf
    simp [List.count_cons] at hc
  have ne3 : bf ≠ bs := by
    rintro rfl
    exact hout ((hmem _).2 (by simp))
  have ne4 : bm ≠ bs := by
    rintro rfl
    exact hout (by simp)
  refine ⟨t, q, r, v1, v2, B1, B2, hbf, by rw [hq, hoff], o1, o2, ?_, ?_, fun b hb' => ⟨(ne1 b hb').1, (ne1 b hb').2.1, (ne1 b hb').2.2.1⟩, ne2, ne3, ?_⟩
  · exact nd.less fun a => by simp only [List.count_append, List.count_cons]; omega
  · intro b hb'
    exact hM.fr b ((hmem b).2 (by simp at hb' ⊢; grind))
  intro h' f' v1' v2' B1' B2' k1 k2 k3 k4 k5 k6
  have hbm : h' bm = h bm := k2 bm (by simp only [List.mem_cons, not_or]; exact ⟨fun hx => ne2 hx.symm, fun hx => (ne1 _ hx).2.1 rfl⟩) (by rw [hb]; simp)
  have hbo : ∀ b ∈ Bo, b ∉ bf :: (B1 ++ B2) := by
    intro b hb' hx
    rcases List.mem_cons.1 hx with rfl | hx
    · have hc := hcnt b
      have := List.count_pos_iff.2 hb'
      simp only [List.count_append, List.count_cons] at hc
      simp at hc
      omega
    · exact (ne1 b hx).2.2.2 hb'
  have hkeep : Keep h h' Bo := fun b hb' o ho => by rw [k2 b (hbo b hb') (by rw [ho]; simp)]; exact ho
  have hnd : Nd (bm :: bf :: (Bo ++ B1' ++ B2')) := by
    have := Nd.swap (A := bm :: bf :: Bo) (X := B1 ++ B2) (X' := B1' ++ B2') (nd.perm fun a => by simp only [List.count_append, List.count_cons]; omega) k6 (fun b hb' => ?_)
    · exact this.perm fun a => by simp only [List.count_append, List.count_cons]; omega
    · rcases k5 b hb' with hx | hx
      · exact .inl hx
      · refine .inr fun hy => ?_
        obtain ⟨o, ho⟩ := hin b (by simp at hy ⊢; grind)
        rw [hx] at ho; cases ho
  have hev : Ev h h' (bm :: B) (bm :: bf :: (Bo ++ B1' ++ B2')) := by
    refine ⟨fun b hb' hn => ?_, fun b hb' => ?_⟩
    · refine k2 b (fun hx => hn ((hmem b).2 (by simp at hx ⊢; grind))) hb'
    · have : b ∈ B1' ++ B2' ∨ b ∈ bm :: bf :: Bo := by simp at hb' ⊢; grind
      rcases this with hx | hx
      · rcases k5 b hx with hy | hy
        · exact .inl ((hmem b).2 (by simp at hy ⊢; grind))
        · exact .inr hy
      · exact .inl ((hmem b).2 (by simp at hx ⊢; grind))
  obtain ⟨B', hM', hev'⟩ := reb h' f' v1' v2' B1' B2' hbm k1 k3 k4 hkeep hnd hev
  refine ⟨B', ⟨hM', rfl, ⟨hoff, c0, ?_⟩, ⟨ms, us, ts, ?_, hu, hm⟩, ?_⟩, hev'⟩
  · rw [← htop]; unfold rd; rw [hbm]
  · rw [k2 bs ?_ (by rw [hst]; simp)]; exact hst
    intro hx
    rcases List.mem_cons.1 hx with hx | hx
    · exact ne3 hx.symm
    · exact (ne1 _ hx).2.2.1 rfl
  · intro hx
    rcases hev'.new bs hx with hy | hy
    · exact hout hy
    · rw [hst] at hy; cases hy
theorem len_map {α β : Type} (g : α → β) (l : List α) : ((l.map g).length : Int) = l.length := by simp
theorem SpH.stk {h0 h : Heap} {bs bm bf off : Nat} {u : Unt} {m : Mth} {fs : List Frm} {f : Frm} {M : Mch} {B : List Nat} (hS : SpH h0 h bs bm bf off u m fs f M B) :
    ∃ t q r v1 p2 c2 B2, h bf = some (.cells (q ++ [.int .i64 f.meth, .int .i64 f.pc, v1, .slice p2 (f.stack.map vl2).length c2] ++ r).toArray t (0, 0)) ∧ q.length = off ∧ OwnV h (.slice p2 (f.stack.map vl2).length c2) f.stack B2 ∧ (∀ b ∈ B2, h0 b = none) ∧
      rd h bs 0 = some (.pointer (some ⟨bf, off, none⟩)) ∧ rd h bf (off + 3) = some (.slice p2 (f.stack.map vl2).length c2) ∧
      ∀ h1 v2' B2' S' pc', (∀ b, b ∉ B2 → h b ≠ none → h1 b = h b) → OwnV h1 v2' S' B2' → (∀ b ∈ B2', b ∈ B2 ∨ h b = none) →
        h1 bf = h bf ∧ h1 bs = h bs ∧ h1 bm = h bm ∧ ∃ B', SpH h0 (h1.set bf (.cells (q ++ [.int .i64 f.meth, .int .i64 pc', v1, v2'] ++ r).toArray t (0, 0))) bs bm bf off u m fs { f with pc := pc', stack := S' } { M with frames := fs ++ [{ f with pc := pc', stack := S' }] } B' ∧
          Ev h (h1.set bf (.cells (q ++ [.int .i64 f.meth, .int .i64 pc', v1, v2'] ++ r).toArray t (0, 0))) (bm :: B) (bm :: B') := by
  obtain ⟨t, q, r, v1, v2, B1, B2, hbf, hq, o1, o2, nd, hfr, hne, ne1, ne2, reb⟩ := hS.lens
  obtain ⟨hM, hf, htop, ⟨ms, us, ts, hst, hu, hm⟩, hout⟩ := hS
  obtain ⟨p2, c2, rfl, hcap⟩ := o2.form
  obtain ⟨mc, tm, hbm, _⟩ := hM.cell
  refine ⟨t, q, r, v1, p2, c2, B2, hbf, hq, o2, fun b hb => hfr b (by simp; grind), rd_cells hst rfl, rd_mid hbf (i := 3) (by rw [hq]) rfl, ?_⟩
  intro h1 v2' B2' S' pc' k1 k2 k3
  have n1 : bf ∉ B2 := fun hx => (hne bf (by simp [hx])).1 rfl
  have n2 : bs ∉ B2 := fun hx => (hne bs (by simp [hx])).2.2 rfl
  have n3 : bm ∉ B2 := fun hx => (hne bm (by simp [hx])).2.1 rfl
  have hd : ∀ b, b ∈ B1 → b ∉ B2 := by
    intro b h1 h2
    have := nd b
    have := List.count_pos_iff.2 h1
    have := List.count_pos_iff.2 h2
    simp only [List.count_append] at *
    omega
  have nb : ∀ b ∈ B2', b ≠ bf := by
    intro b hb
    rcases k3 b hb with hx | hx
    · rintro rfl; exact n1 hx
    · rintro rfl; rw [hbf] at hx; cases hx
  refine ⟨k1 bf n1 (by rw [hbf]; simp), k1 bs n2 (by rw [hst]; simp), k1 bm n3 (by rw [hbm]; simp), ?_⟩
  refine reb _ { f with pc := pc', stack := S' } v1 v2' B1 B2' ?_ ?_ ?_ ?_ ?_ ?_
  · simp [Heap.set]
  · intro b hb hn
    have hb1 : b ≠ bf := fun hx => hb (by simp [hx])
    simp only [Heap.set, hb1, if_false]
    exact k1 b (fun hx => hb (by simp [hx])) hn
  · refine o1.keep fun b hb o ho => ?_
    have hb1 := (hne b (by simp [hb])).1
    simp only [Heap.set, hb1, if_false]
    rw [k1 b (hd b hb) (by rw [ho]; simp)]; exact ho
  · refine k2.keep fun b hb o ho => ?_
    simp only [Heap.set, nb b hb, if_false]
    exact ho
  · intro b hb
    rcases List.mem_append.1 hb with hx | hx
    · exact .inl (by simp [hx])
    · rcases k3 b hx with hy | hy
      · exact .inl (by simp [hy])
      · exact .inr hy
  · refine Nd.swap nd k2.nd fun b hb => ?_
    rcases k3 b hb with hx | hx
    · exact .inl hx
    · refine .inr fun hy => ?_
      obtain ⟨o, ho⟩ := o1.in b hy
      rw [hx] at ho; cases ho
theorem set_wr {h : Heap} {b : Nat} {pre x post : List Value} {t : TypeId} {fz : Nat × Nat} {i n : Nat} {v : Value} (hn : n = pre.length + i) (hi : i < x.length) :
    h.set b (.cells (wrls (pre ++ x ++ post) n [v]).toArray t fz) = h.set b (.cells (pre ++ x.set i v ++ post).toArray t fz) := by rw [wr_mid hn hi]
theorem push_c (h0 h : Heap) (bs bm bf off : Nat) (u : Unt) (m : Mth) (fs : List Frm) (f : Frm) (M : Mch) (B : List Nat) (x : Vl) (hS : SpH h0 h bs bm bf off u m fs f M B) :
    CallsH Tryz.prog 231 [.pointer (some ⟨bs, 0, none⟩), .agg #[.bool x.ref, .int .i64 x.n]] h fun o h' => match o with
      | .ret _ => f.stack.length < 4 ∧ ∃ B', SpH h0 h' bs bm bf off u m fs { f with stack := f.stack ++ [x] } { M with frames := fs ++ [{ f with stack := f.stack ++ [x] }] } B' ∧ Ev h h' (bm :: B) (bm :: B')
      | .pan c => 4 ≤ f.stack.length ∧ c = wrongP 0 ∧ Pn h0 bm h' := by
  obtain ⟨t, q, r, v1, p2, c2, B2, hbf, hq, o2, hfr, r1, r2, reb⟩ := hS.stk
  have hle := hS.ma.le
  have hlen := len_map vl2 f.stack
  refine outs Tryz.sigOk Tryz.func231 Tryz.F231 Tryz.ok231 rfl ?_
  conv => whnf
  refine ld r1 ?_
  conv => whnf
  refine ld r2 ?_
  conv => whnf
  refine selP (fun g => ?_) (fun g => ?_)
  all_goals conv => whnf
  · exact ⟨by omega, rfl, hS.ma.pn⟩
  repeat' ((first | exact trivial | refine ld r1 ?_ | refine ld r2 ?_ | refine And.intro ?_ ?_) <;> conv => whnf)
  all_goals
    refine app_own (h0 := h0) (ys := [vl2 x]) o2 hfr hle rfl rfl (by simp [vl2]) rfl rfl (by simp; omega) (by simp; omega) ?_
    intro v' h1 B2' g1 g2 g3 g4 g5
    have ff := g2.form
    obtain ⟨p', c', rfl, hc'⟩ := ff
    have g2' : OwnV h1 (.slice p' (f.stack.map vl2 ++ [vl2 x]).length c') (f.stack ++ [x]) B2' := by unfold OwnV; rw [List.map_append]; exact g2
    obtain ⟨e1, e2, e3, B', s1, s2⟩ := reb h1 _ B2' (f.stack ++ [x]) f.pc g4 g2' g5
    have r1' : rd h1 bs 0 = some (.pointer (some ⟨bf, off, none⟩)) := by unfold rd at r1 ⊢; rw [e2]; exact r1
    rw [hbf] at e1
    conv => whnf
    repeat' ((first | refine ld r1' ?_ | refine st e1 (by simp; omega) ?_) <;> conv => whnf)
    refine ⟨by omega, ?_⟩
    rw [set_wr (i := 3) (by rw [hq]) (by simp)]
    exact ⟨B', s1, s2⟩
end Go.Proofs
namespace Go.Proofs
open Go.Vc
set_option maxRecDepth 100000
set_option maxHeartbeats 4000000
def ReadC (sz : Nat) (h : Heap) (v : Value) (xs : List (List Value)) : Prop := xs.length ≤ 1000000 ∧ (∀ x ∈ xs, x.length = sz) ∧ ∃ p c, v = .slice p xs.length c ∧ xs.length ≤ c ∧ (xs = [] ∨ ∃ b off, p = some ⟨b, off, none⟩ ∧ rdn h b off (xs.length * sz) = some xs.flatten)
theorem ReadC.le {sz : Nat} {h h' : Heap} {v : Value} {xs : List (List Value)} (hl : h.le h') (hr : ReadC sz h v xs) : ReadC sz h' v xs := by
  obtain ⟨h1, h2, p, c, rfl, h3, h4⟩ := hr
  refine ⟨h1, h2, p, c, rfl, h3, h4.imp id ?_⟩
  rintro ⟨b, off, rfl, h5⟩
  exact ⟨b, off, rfl, rdn_le' hl h5⟩
theorem OwnC.read {sz : Nat} {h : Heap} {v : Value} {xs : List (List Value)} {B : List Nat} (ho : OwnC sz h v xs B) (hl : xs.length ≤ 1000000) : ReadC sz h v xs := by
  obtain ⟨hx, ⟨rfl, rfl, _⟩ | ⟨b, c, rest, t, rfl, hc, hb, hlen, _⟩⟩ := ho
  · exact ⟨hl, hx, none, 0, rfl, by simp, .inl rfl⟩
  · refine ⟨hl, hx, _, c, rfl, hc, .inr ⟨b, 0, rfl, ?_⟩⟩
    have hlx := flat_length hx
    rw [rdn_cells hb _ _ (by simp only [List.length_append]; omega)]
    simp [← hlx]
theorem ReadC.ldp {sz : Nat} {h : Heap} {p : Option Addr} {n c : Nat} {xs : List (List Value)} {K : List Value → Prop} (hr : ReadC sz h (.slice p n c) xs) (hk : K xs.flatten) : LdP h p (n * sz) K := by
  obtain ⟨_, _, p', c', he, _, h3⟩ := hr
  simp only [Value.slice.injEq] at he
  obtain ⟨rfl, rfl, rfl⟩ := he
  rw [LdP_def]; unfold LdP_
  rcases h3 with rfl | ⟨b, off, rfl, hx⟩
  · exact .inl ⟨.inr (by simp), hk⟩
  · exact .inr ⟨b, off, _, rfl, hx, hk⟩
abbrev ReadV (h : Heap) (v : Value) (l : List Vl) : Prop := ReadC 2 h v (l.map vl2)
abbrev ReadI (h : Heap) (v : Value) (l : List Int) : Prop := ReadC 1 h v (l.map int1)
theorem cellsOk_vl : ∀ l : List Vl, cellsOk (l.map vl2).flatten = true
  | [] => rfl
  | x :: l => by simp [vl2, cellsOk, isCell, cellsOk_vl l]
theorem cloneI_c (v : Value) (l : List Int) (h : Heap) (hr : ReadI h v l) :
    Rets Tryz.prog 184 [v] h fun v h' => h.le h' ∧ ∃ B, OwnI h' v l B ∧ ∀ b ∈ B, h b = none := by
  have hr0 := hr
  obtain ⟨h1, h2, p, c, rfl, h3, h4⟩ := hr
  have hlen := len_map int1 l
  refine rets Tryz.sigOk Tryz.func184 Tryz.F184 Tryz.ok184 rfl ?_
  conv => whnf
  refine raw_sn rfl rfl rfl ?_
  conv => whnf
  cases p with
  | none =>
    conv => whnf
    have hl : l.map int1 = [] := h4.elim id (fun ⟨_, _, hx, _⟩ => by cases hx)
    exact ⟨Heap.le_refl h, [], ⟨by simp [hl], .inl ⟨rfl, hl, rfl⟩⟩, by simp⟩
  | some a =>
    conv => whnf
    refine new (fun b hb => ?_)
    conv => whnf
    have hle := Heap.le_set_free (Heap.le_refl h) hb (o := .cells #[] 3)
    refine (hr0.le hle).ldp ?_
    conv => whnf
    refine app_own (h0 := h) (xs := []) (ys := l.map int1) (B := [b]) ⟨by simp, .inr ⟨b, 0, [], 3, rfl, by simp, by simp [Heap.set, reps], by simp, rfl⟩⟩ (by simpa using hb) hle rfl rfl (by simp [int1]) (by rw [flat_int1]; exact cellsOk_int l) rfl (by simp; simp at h1; omega) (by simp; simp at h1; omega) ?_
    intro v' h' B' g1 g2 g3 g4 g5
    conv => whnf
    exact ⟨g1, B', by simpa using g2, g3⟩
theorem cloneV_c (v : Value) (l : List Vl) (h : Heap) (hr : ReadV h v l) :
    Rets Tryz.prog 185 [v] h fun v h' => h.le h' ∧ ∃ B, OwnV h' v l B ∧ ∀ b ∈ B, h b = none := by
  have hr0 := hr
  obtain ⟨h1, h2, p, c, rfl, h3, h4⟩ := hr
  have hlen := len_map vl2 l
  refine rets Tryz.sigOk Tryz.func185 Tryz.F185 Tryz.ok185 rfl ?_
  conv => whnf
  refine raw_sn rfl rfl rfl ?_
  conv => whnf
  cases p with
  | none =>
    conv => whnf
    have hl : l.map vl2 = [] := h4.elim id (fun ⟨_, _, hx, _⟩ => by cases hx)
    exact ⟨Heap.le_refl h, [], ⟨by simp [hl], .inl ⟨rfl, hl, rfl⟩⟩, by simp⟩
  | some a =>
    conv => whnf
    refine new (fun b hb => ?_)
    conv => whnf
    have hle := Heap.le_set_free (Heap.le_refl h) hb (o := .cells #[] 31)
    refine (hr0.le hle).ldp ?_
    conv => whnf
    refine app_own (h0 := h) (xs := []) (ys := l.map vl2) (B := [b]) ⟨by simp, .inr ⟨b, 0, [], 31, rfl, by simp, by simp [Heap.set, reps], by simp, rfl⟩⟩ (by simpa using hb) hle rfl rfl (by simp [vl2]) (cellsOk_vl l) rfl (by simp; simp at h1; omega) (by simp; simp at h1; omega) ?_
    intro v' h' B' g1 g2 g3 g4 g5
    conv => whnf
    exact ⟨g1, B', by simpa using g2, g3⟩
end Go.Proofs
namespace Go.Proofs
open Go.Vc
set_option maxRecDepth 100000
set_option maxHeartbeats 4000000
def ObR (h : Heap) (x : List Value) (o : Ob) : Prop := ∃ v, x = [.int .i64 o.cls, v] ∧ ReadV h v o.vals
def FrmR (h : Heap) (x : List Value) (f : Frm) : Prop := ∃ v1 v2, x = [.int .i64 f.meth, .int .i64 f.pc, v1, v2] ∧ ReadV h v1 f.locals ∧ ReadV h v2 f.stack
def MchR (h : Heap) (mc : List Value) (M : Mch) : Prop := ∃ vo vf vs, mc = mcells vo vf vs M ∧ M.objs.length ≤ 1000000 ∧ M.frames.length ≤ 1000000 ∧ Row 2 ObR h vo M.objs ∧ Row 4 FrmR h vf M.frames ∧ ReadI h vs M.said
theorem ObR.le {h h' : Heap} (hl : h.le h') {x : List Value} {o : Ob} (hr : ObR h x o) : ObR h' x o := by
  obtain ⟨v, h1, h2⟩ := hr; exact ⟨v, h1, h2.le hl⟩
theorem FrmR.le {h h' : Heap} (hl : h.le h') {x : List Value} {f : Frm} (hr : FrmR h x f) : FrmR h' x f := by
  obtain ⟨v1, v2, h1, h2, h3⟩ := hr; exact ⟨v1, v2, h1, h2.le hl, h3.le hl⟩
theorem MchR.le {h h' : Heap} (hl : h.le h') {mc : List Value} {M : Mch} (hr : MchR h mc M) : MchR h' mc M := by
  obtain ⟨vo, vf, vs, h1, h2, h3, h4, h5, h6⟩ := hr
  exact ⟨vo, vf, vs, h1, h2, h3, h4.le hl (fun _ _ hx => hx.le hl), h5.le hl (fun _ _ hx => hx.le hl), h6.le hl⟩
def Small (M : Mch) : Prop := M.objs.length ≤ 1000000 ∧ M.frames.length ≤ 1000000 ∧ M.said.length ≤ 1000000 ∧ (∀ o ∈ M.objs, o.vals.length ≤ 1000000) ∧ ∀ f ∈ M.frames, f.locals.length ≤ 1000000 ∧ f.stack.length ≤ 1000000
theorem Rows.mem {α : Type} {R : Heap → List Value → α → List Nat → Prop} {h : Heap} {xs : List (List Value)} {l : List α} {B : List Nat} (hr : Rows R h xs l B) : ∀ i (hi : i < l.length) (hj : i < xs.length), ∃ C, R h xs[i] l[i] C := by
  induction hr with
  | nil => intro i hi; simp at hi
  | cons h1 _ ih =>
    intro i hi hj
    cases i with
    | zero => exact ⟨_, h1⟩
    | succ i => simpa using ih i (by simpa using hi) (by simpa using hj)
theorem OwnL.row {α : Type} {R : Heap → List Value → α → List Nat → Prop} {Q : Heap → List Value → α → Prop} {sz : Nat} {h : Heap} {v : Value} {l : List α} {B : List Nat} (ho : OwnL R sz h v l B) (hl : l.length ≤ 1000000) (hq : ∀ x a C, a ∈ l → R h x a C → Q h x a) : Row sz Q h v l := by
  obtain ⟨xs, B0, B1, ⟨hx, hc⟩, h2, _⟩ := ho
  have hlen := h2.len
  rcases hc with ⟨rfl, rfl, _⟩ | ⟨b, c, rest, t, rfl, hcap, hb, hfl, _⟩
  · have : l = [] := List.eq_nil_of_length_eq_zero (by simpa using hlen.symm)
    subst this
    exact ⟨by simp, none, 0, rfl, by simp, .inl rfl⟩
  · refine ⟨by omega, _, c, by rw [hlen], by omega, .inr ⟨b, 0, rfl, fun i a hi => ?_⟩⟩
    obtain ⟨hil, hia⟩ := List.getElem?_eq_some_iff.1 hi
    have hix : i < xs.length := by omega
    obtain ⟨C, hR⟩ := h2.mem i hil hix
    rw [hia] at hR
    refine ⟨xs[i], ?_, hq _ _ C (hia ▸ List.getElem_mem hil) hR⟩
    have hsplit : xs = xs.take i ++ xs[i] :: xs.drop (i + 1) := by simp
    have hti : (xs.take i).flatten.length = i * sz := by
      rw [flat_length (sz := sz) (fun y hy => hx y (List.mem_of_mem_take hy)), List.length_take, Nat.min_eq_left (by omega)]
    have hlx : (xs[i]).length = sz := hx _ (List.getElem_mem hix)
    have hcells : xs.flatten ++ rest = (xs.take i).flatten ++ (xs[i] ++ ((xs.drop (i + 1)).flatten ++ rest)) := by
      have e := congrArg List.flatten hsplit
      simp only [List.flatten_append, List.flatten_cons] at e
      rw [e]; simp only [List.append_assoc]
    rw [rdn_cells hb _ _ (by rw [hcells]; simp only [List.length_append]; omega), hcells]
    simp only [Nat.zero_add]
    rw [List.drop_append_of_le_length (by omega), ← hti, List.drop_length, List.nil_append, ← hlx, List.take_left]
theorem OwnM.read {h : Heap} {mc : List Value} {M : Mch} {B : List Nat} (ho : OwnM h mc M B) (hs : Small M) : MchR h mc M := by
  obtain ⟨vo, vf, vs, B1, B2, B3, rfl, h2, h3, h4, rfl⟩ := ho
  obtain ⟨s1, s2, s3, s4, s5⟩ := hs
  refine ⟨vo, vf, vs, rfl, s1, s2, h2.row s1 ?_, h3.row s2 ?_, h4.read (by simpa using s3)⟩
  · rintro x a C ha ⟨v, h5, h6⟩
    exact ⟨v, h5, h6.read (by simpa using s4 a ha)⟩
  · rintro x a C ha ⟨v1, v2, C1, C2, h5, h6, h7, _⟩
    exact ⟨v1, v2, h5, h6.read (by simpa using (s5 a ha).1), h7.read (by simpa using (s5 a ha).2)⟩
theorem OwnL.form {α : Type} {R : Heap → List Value → α → List Nat → Prop} {sz : Nat} {h : Heap} {v : Value} {l : List α} {B : List Nat} (ho : OwnL R sz h v l B) : ∃ p c, v = .slice p l.length c ∧ l.length ≤ c := by
  obtain ⟨xs, B0, B1, h1, h2, _⟩ := ho
  obtain ⟨p, c, rfl, hc⟩ := h1.form
  have := h2.len
  exact ⟨p, c, by rw [this], by omega⟩
theorem app_ownL {α : Type} {R : Heap → List Value → α → List Nat → Prop} (hR : Kept R) (hI : InH R) {bytes sz : Nat} {zero : List Value} {el : TypeId} {h0 h : Heap} {p : Option Addr} {n cap : Nat} {l : List α} {a : α} {B Bi : List Nat} {m : Nat} {vs : List Value} {K : Value → Heap → Prop}
    (ho : OwnL R sz h (.slice p n cap) l B) (hy : R h vs a Bi) (hnd : Nd (B ++ Bi)) (hB : ∀ b ∈ B ++ Bi, h0 b = none) (hle : h0.le h) (hm : m = 1) (hys : vs.length = sz) (hc : cellsOk vs = true) (hz : zero.length = sz)
    (hb1 : (l.length + 1) * bytes ≤ 2 ^ 44) (hb2 : l.length + 1 ≤ 2 ^ 44)
    (hk : ∀ v' h' B', h0.le h' → OwnL R sz h' v' (l ++ [a]) B' → Nd B' → (∀ b ∈ B', h0 b = none) → Ev h h' (B ++ Bi) B' → K v' h') : App bytes sz zero el h p n cap m vs K := by
  obtain ⟨xs, B0, B1, h1, h2, rfl⟩ := ho
  have hlen := h2.len
  have hin1 := h2.in hI
  have hin2 := hI _ _ _ _ hy
  refine app_own (h0 := h0) (ys := [vs]) h1 (fun b hb => hB b (by simp [hb])) hle (by simp) hm (by simpa using hys) hc hz (by simpa [hlen] using hb1) (by simpa [hlen] using hb2) ?_
  intro v' h' B' g1 g2 g3 g4 g5
  have hcnt := hnd
  have dis : ∀ b, b ∈ B1 ++ Bi → b ∉ B0 := by
    intro b hb hb0
    have := hcnt b
    have := List.count_pos_iff.2 hb
    have := List.count_pos_iff.2 hb0
    simp only [List.count_append] at *
    omega
  have hin : ∀ b, b ∈ B1 ++ Bi → ∃ o, h b = some o := fun b hb => (List.mem_append.1 hb).elim (hin1 b) (hin2 b)
  have hkeep : Keep h h' (B1 ++ Bi) := fun b hb o ho => by rw [g4 b (dis b hb) (by rw [ho]; simp)]; exact ho
  refine hk v' h' (B' ++ (B1 ++ Bi)) g1 ⟨xs ++ [vs], B', B1 ++ Bi, by simpa using g2, (h2.keep hR hkeep.l).app (Rows.one (hR _ _ _ _ _ hkeep.r hy)), rfl⟩ ?_ ?_ ?_
  · have := Nd.swap (A := B1 ++ Bi) (X := B0) (X' := B') (hnd.perm fun a => by simp only [List.count_append]; omega) g2.nd (fun b hb => ?_)
    · exact this.perm fun a => by simp only [List.count_append]; omega
    · rcases g5 b hb with hx | hx
      · exact .inl hx
      · refine .inr fun hy => ?_
        obtain ⟨o, ho⟩ := hin b hy
        rw [hx] at ho; cases ho
  · intro b hb
    rcases List.mem_append.1 hb with hb | hb
    · exact g3 b hb
    · exact hB b (by simp at hb ⊢; grind)
  · refine ⟨fun b hb hs => g4 b (fun hx => hs (by simp [hx])) hb, fun b hb => ?_⟩
    rcases List.mem_append.1 hb with hb | hb
    · exact (g5 b hb).imp (fun hx => by simp [hx]) id
    · exact .inl (by simp at hb ⊢; grind)
theorem frameClone_c (f : Frm) (v1 v2 : Value) (h : Heap) (h1 : ReadV h v1 f.locals) (h2 : ReadV h v2 f.stack) :
    Rets Tryz.prog 186 [.agg #[.int .i64 f.meth, .int .i64 f.pc, v1, v2]] h fun v h' => h.le h' ∧ ∃ x B, v = .agg ⟨x⟩ ∧ x.length = 4 ∧ cellsOk x = true ∧ OwnF h' x f B ∧ Nd B ∧ ∀ b ∈ B, h b = none := by
  have h10 := h1
  have h20 := h2
  obtain ⟨_, _, p1, c1, rfl, _⟩ := h1
  obtain ⟨_, _, p2, c2, rfl, _⟩ := h2
  refine rets Tryz.sigOk Tryz.func186 Tryz.F186 Tryz.ok186 rfl ?_
  conv => whnf
  refine callX_r (cloneV_c _ _ h h10) ?_
  rintro v h1 ⟨l1, B1, o1, n1⟩
  refine ⟨l1, ?_⟩
  have ff := o1.form
  obtain ⟨p1', c1', rfl, _⟩ := ff
  conv => whnf
  refine callX_r (cloneV_c _ _ h1 (h20.le l1)) ?_
  rintro v h2 ⟨l2, B2, o2, n2⟩
  refine ⟨l2, ?_⟩
  have ff := o2.form
  obtain ⟨p2', c2', rfl, _⟩ := ff
  conv => whnf
  refine ⟨Heap.le_trans l1 l2, _, B1 ++ B2, rfl, rfl, rfl, ⟨_, _, B1, B2, rfl, o1.keep (Keep.of_le l2 _), o2, rfl⟩, ?_, ?_⟩
  · intro a
    have e1 := o1.nd a
    have e2 := o2.nd a
    simp only [List.count_append]
    by_cases hm : a ∈ B2
    · have : B1.count a = 0 := by
        refine List.count_eq_zero.2 fun hx => ?_
        obtain ⟨o, ho⟩ := o1.in a hx
        rw [n2 a hm] at ho; cases ho
      omega
    · have := List.count_eq_zero.2 hm
      omega
  · intro b hb
    rcases List.mem_append.1 hb with hb | hb
    · exact n1 b hb
    · cases hh : h b with
      | none => rfl
      | some o => have := n2 b hb; rw [l1 b o hh] at this; cases this
end Go.Proofs
namespace Go.Proofs
open Go.Vc
set_option maxRecDepth 100000
set_option maxHeartbeats 4000000
structure Acc {α : Type} (R : Heap → List Value → α → List Nat → Prop) (sz : Nat) (h0 h : Heap) (v : Value) (l : List α) (B A : List Nat) : Prop where
  le : h0.le h
  own : OwnL R sz h v l B
  nd : Nd (B ++ A)
  fr : ∀ b ∈ B ++ A, h0 b = none
  inn : ∀ b ∈ A, ∃ o, h b = some o
theorem Acc.start {α : Type} {R : Heap → List Value → α → List Nat → Prop} {sz : Nat} {h0 h : Heap} {A : List Nat} (hl : h0.le h) (nd : Nd A) (fr : ∀ b ∈ A, h0 b = none) (inn : ∀ b ∈ A, ∃ o, h b = some o) : Acc R sz h0 h (.slice none 0 0) [] [] A :=
  ⟨hl, ⟨[], [], [], ⟨by simp, .inl ⟨rfl, rfl, rfl⟩⟩, .nil, rfl⟩, nd, fr, inn⟩
theorem app_acc {α : Type} {R : Heap → List Value → α → List Nat → Prop} (hR : Kept R) (hI : InH R) {bytes sz : Nat} {zero : List Value} {el : TypeId} {h0 h h1 : Heap} {p : Option Addr} {n cap : Nat} {l : List α} {a : α} {B A Bi : List Nat} {m : Nat} {vs : List Value} {K : Value → Heap → Prop}
    (ac : Acc R sz h0 h (.slice p n cap) l B A) (hl : h.le h1) (hy : R h1 vs a Bi) (hBi : Nd Bi) (hn : ∀ b ∈ Bi, h b = none) (hm : m = 1) (hys : vs.length = sz) (hc : cellsOk vs = true) (hz : zero.length = sz)
    (hb1 : (l.length + 1) * bytes ≤ 2 ^ 44) (hb2 : l.length + 1 ≤ 2 ^ 44)
    (hk : ∀ p' c' h2 B', Acc R sz h0 h2 (.slice p' (l.length + 1) c') (l ++ [a]) B' A → Keep h h2 A → K (.slice p' (l.length + 1) c') h2) : App bytes sz zero el h1 p n cap m vs K := by
  obtain ⟨hle, own, nd, fr, inn⟩ := ac
  have hinB := own.in hI
  have key : ∀ b, b ∈ Bi → b ∉ B ++ A := by
    intro b hb hx
    rcases List.mem_append.1 hx with hx | hx
    · obtain ⟨o, ho⟩ := hinB b hx; rw [hn b hb] at ho; cases ho
    · obtain ⟨o, ho⟩ := inn b hx; rw [hn b hb] at ho; cases ho
  have nd' : Nd (B ++ A ++ Bi) := by
    have := Nd.swap (A := B ++ A) (X := []) (X' := Bi) (by simpa using nd) hBi (fun b hb => .inr (key b hb))
    exact this
  have fr' : ∀ b ∈ Bi, h0 b = none := by
    intro b hb
    cases hh : h0 b with
    | none => rfl
    | some o => have := hn b hb; rw [hle b o hh] at this; cases this
  refine app_ownL hR hI (h0 := h0) (own.keep hR (Keep.of_le hl _)) hy (nd'.less fun a => by simp only [List.count_append]; omega) (fun b hb => ?_) (Heap.le_trans hle hl) hm hys hc hz hb1 hb2 ?_
  · rcases List.mem_append.1 hb with hb | hb
    · exact fr b (by simp [hb])
    · exact fr' b hb
  intro v' h2 B' g1 g2 g3 g4 g5
  obtain ⟨p', c', rfl, hc'⟩ := g2.form
  have hA : ∀ b ∈ A, b ∉ B ++ Bi := by
    intro b hb hx
    have := nd' b
    have h1 := List.count_pos_iff.2 hb
    have h2 := List.count_pos_iff.2 hx
    simp only [List.count_append] at *
    omega
  have hkeep : Keep h h2 A := fun b hb o ho => by
    have h1b := hl b o ho
    rw [g5.old b (by rw [h1b]; simp) (hA b hb)]; exact h1b
  have hn : (l ++ [a]).length = l.length + 1 := by simp
  rw [hn] at g2 ⊢
  refine hk p' c' h2 B' ⟨g1, g2, ?_, ?_, fun b hb => ?_⟩ hkeep
  · have := Nd.swap (A := A) (X := B ++ Bi) (X' := B') (nd'.perm fun a => by simp only [List.count_append]; omega) g3 (fun b hb => ?_)
    · exact this.perm fun a => by simp only [List.count_append]; omega
    · rcases g5.new b hb with hx | hx
      · exact .inl hx
      · refine .inr fun hy => ?_
        obtain ⟨o, ho⟩ := inn b hy
        rw [hl b o ho] at hx; cases hx
  · intro b hb
    rcases List.mem_append.1 hb with hb | hb
    · exact g4 b hb
    · exact fr b (by simp [hb])
  · obtain ⟨o, ho⟩ := inn b hb
    exact ⟨o, hkeep b hb o ho⟩
theorem machClone_c (mc : List Value) (M : Mch) (h : Heap) (hr : MchR h mc M) :
    Rets Tryz.prog 108 [.agg ⟨mc⟩] h fun v h' => h.le h' ∧ ∃ mc' B, v = .agg ⟨mc'⟩ ∧ OwnM h' mc' M B ∧ Nd B ∧ ∀ b ∈ B, h b = none := by
  obtain ⟨vo, vf, vs, rfl, s1, s2, ho, hf, hs⟩ := hr
  obtain ⟨po, co, rfl, _, _⟩ := ho.len
  obtain ⟨pf, cf, rfl, _, _⟩ := hf.len
  have hs0 := hs
  obtain ⟨_, _, ps, cs, rfl, _⟩ := hs
  refine rets Tryz.sigOk Tryz.func108 Tryz.F108 Tryz.ok108 rfl ?_
  unfold mcells
  conv => whnf
  refine callX_r (cloneI_c _ _ h hs0) ?_
  rintro v h1 ⟨l1, Bs, os, ns⟩
  refine ⟨l1, ?_⟩
  have ff := os.form
  obtain ⟨ps', cs', rfl, _⟩ := ff
  conv => whnf
  refine lps [1, 2, 3, 19, 20, 21] [1, 2, 3] (fun s : Nat × Heap × Option Addr × Nat × List Nat => s.1 ≤ M.objs.length ∧ Acc OwnO 2 h s.2.1 (.slice s.2.2.1 s.1 s.2.2.2.1) (M.objs.take s.1) s.2.2.2.2 Bs ∧ OwnI s.2.1 (.slice ps' (M.said.map int1).length cs') M.said Bs) (fun s => M.objs.length - s.1)
    (fun s => ([.l 1 0, .l 2 0, .l 3 0, .v (.slice po M.objs.length co), .v (.int .i64 M.objs.length), .v (.int .i64 s.1)],
      [some (mcells (.slice po M.objs.length co) (.slice pf M.frames.length cf) (.slice ps (M.said.map int1).length cs) M), some [.slice none 0 0, .slice none 0 0, .slice none 0 0, .int .i64 0, .int .i64 0, .bool false, .int .i64 0],
       some (mcells (.slice s.2.2.1 s.1 s.2.2.2.1) (.slice none 0 0) (.slice ps' (M.said.map int1).length cs') M)], s.2.1))
    (0, h1, none, 0, []) ⟨by omega, Acc.start l1 os.nd ns os.in, os⟩ rfl ?_
  rintro ⟨i, h2, p, c, B⟩ ⟨hi, ac, os⟩
  simp only at hi ac os ⊢
  unfold mcells
  conv => whnf
  refine selP (fun g => ?_) (fun g => ?_)
  all_goals conv => whnf
  · have hil : i < M.objs.length := by omega
    have e := (ho.le ac.le (fun _ _ hx => hx.le ac.le)).get hil
    obtain ⟨bb, off, xs, hq, e1, vv, rfl, e2⟩ := e
    have e20 := e2
    obtain ⟨_, _, pv, cv, rfl, _⟩ := e2
    refine ob (by omega) ?_
    conv => whnf
    refine ptr' hq ?_
    conv => whnf
    refine ldn e1 ?_
    conv => whnf
    refine callX_r (cloneV_c _ _ h2 e20) ?_
    rintro v h3 ⟨l3, Bv, ov, nv⟩
    refine ⟨l3, ?_⟩
    have ff := ov.form
    obtain ⟨pv', cv', rfl, _⟩ := ff
    conv => whnf
    refine app_acc keptO inO (a := M.objs[i]) (Bi := Bv) ac l3 ⟨_, rfl, ov⟩ ov.nd nv rfl rfl rfl rfl (by simp; omega) (by simp; omega) ?_
    intro p' c' h4 B' ac' hk
    have hti : (M.objs.take i).length = i := by simp; omega
    rw [List.take_append_getElem hil, hti] at ac'
    rw [hti]
    conv => whnf
    refine ar_in (by omega) (by omega) ?_
    conv => whnf
    exact lpn (i + 1, h4, p', c', B') ⟨by omega, ac', os.keep hk⟩ (by simp only; omega) rfl
  · have hie : i = M.objs.length := by omega
    subst hie
    rw [List.take_length] at ac
    have hA : Nd (B ++ Bs) := ac.nd
    refine lps [2, 3, 38, 39, 40] [2, 3] (fun s : Nat × Heap × Option Addr × Nat × List Nat => s.1 ≤ M.frames.length ∧ Acc OwnF 4 h s.2.1 (.slice s.2.2.1 s.1 s.2.2.2.1) (M.frames.take s.1) s.2.2.2.2 (B ++ Bs) ∧ OwnL OwnO 2 s.2.1 (.slice p M.objs.length c) M.objs B ∧ OwnI s.2.1 (.slice ps' (M.said.map int1).length cs') M.said Bs) (fun s => M.frames.length - s.1)
      (fun s => ([.l 2 0, .l 3 0, .v (.slice pf M.frames.length cf), .v (.int .i64 M.frames.length), .v (.int .i64 s.1)],
        [some [.slice none 0 0, .slice none 0 0, .slice none 0 0, .int .i64 0, .int .i64 0, .bool false, .int .i64 0],
         some (mcells (.slice p M.objs.length c) (.slice s.2.2.1 s.1 s.2.2.2.1) (.slice ps' (M.said.map int1).length cs') M)], s.2.1))
      (0, h2, none, 0, []) ⟨by omega, Acc.start ac.le hA ac.fr (fun b hb => (List.mem_append.1 hb).elim (ac.own.in inO b) (ac.inn b)), ac.own, os⟩ rfl ?_
    rintro ⟨i, h3, p2, c2, B2⟩ ⟨hi, ac2, oo, os⟩
    simp only at hi ac2 oo os ⊢
    unfold mcells
    conv => whnf
    refine selP (fun g => ?_) (fun g => ?_)
    all_goals conv => whnf
    · have hil : i < M.frames.length := by omega
      have e := (hf.le ac2.le (fun _ _ hx => hx.le ac2.le)).get hil
      obtain ⟨bb, off, xs, hq, e1, v1, v2, rfl, e2, e3⟩ := e
      have e20 := e2
      have e30 := e3
      obtain ⟨_, _, pv, cv, rfl, _⟩ := e2
      obtain ⟨_, _, pw, cw, rfl, _⟩ := e3
      refine ob (by omega) ?_
      conv => whnf
      refine ptr' hq ?_
      conv => whnf
      refine ldn e1 ?_
      conv => whnf
      refine callX_r (frameClone_c _ _ _ h3 e20 e30) ?_
      rintro v h4 ⟨l4, x, Bv, rfl, hx, hcx, ov, ndv, nv⟩
      refine ⟨l4, ?_⟩
      have ov0 := ov
      obtain ⟨w1, w2, C1, C2, rfl, ow1, ow2, rfl⟩ := ov
      obtain ⟨pw1, cw1, rfl, _⟩ := ow1.form
      obtain ⟨pw2, cw2, rfl, _⟩ := ow2.form
      conv => whnf
      refine app_acc keptF inF (a := M.frames[i]) ac2 l4 ov0 ndv nv rfl rfl rfl rfl (by simp; omega) (by simp; omega) ?_
      intro p' c' h5 B' ac' hk
      have hti : (M.frames.take i).length = i := by simp; omega
      rw [List.take_append_getElem hil, hti] at ac'
      rw [hti]
      conv => whnf
      refine ar_in (by omega) (by omega) ?_
      conv => whnf
      exact lpn (i + 1, h5, p', c', B') ⟨by omega, ac', oo.keep keptO hk.l, os.keep hk.r⟩ (by simp only; omega) rfl
    · have hie : i = M.frames.length := by omega
      subst hie
      rw [List.take_length] at ac2
      refine ⟨ac2.le, _, B ++ B2 ++ Bs, rfl, ⟨_, _, _, B, B2, Bs, rfl, oo, ac2.own, os, rfl⟩, ac2.nd.perm fun a => by simp only [List.count_append]; omega, fun b hb => ac2.fr b (by simp at hb ⊢; grind)⟩
end Go.Proofs
namespace Go.Proofs
open Go.Vc
set_option maxRecDepth 100000
set_option maxHeartbeats 4000000
def seesL (u : Unt) (x : Ins) : Option (List Int) :=
  if x.kind = 4 ∨ x.kind = 5 ∨ x.kind = 6 ∨ x.kind = 22 then some [0]
  else if x.kind = 7 ∨ x.kind = 8 ∨ x.kind = 9 then some [1, 1]
  else if x.kind = 13 ∨ x.kind = 24 then some [1]
  else if x.kind = 10 ∨ x.kind = 14 ∨ x.kind = 17 ∨ x.kind = 19 ∨ x.kind = 23 then some [2]
  else if x.kind = 15 then some [2, 1]
  else if x.kind = 16 then some [2, 1, 0]
  else if x.kind = 18 then some [2, 0]
  else if x.kind = 20 then some (List.replicate (mth u x.a).args.length 0)
  else if x.kind = 21 then (if find u x.a x.b < 0 then none else some (2 :: List.replicate (mth u (find u x.a x.b)).args.length 0))
  else some []
theorem ownM_bound {c s : Int} : ∀ (l : List Mth) (k : Int), ownM c s l k < k + l.length ∨ ownM c s l k = -1
  | [], k => .inr rfl
  | m :: r, k => by
    rw [ownM]
    split
    · left; simp; omega
    · rcases ownM_bound (c := c) (s := s) r (k + 1) with h | h
      · left; simp at h ⊢; omega
      · exact .inr h
theorem ownM_low {c s : Int} : ∀ (l : List Mth) (k : Int), 0 ≤ k → -1 ≤ ownM c s l k
  | [], k, _ => by simp [ownM]
  | m :: r, k, hk => by
    rw [ownM]
    split
    · omega
    · exact ownM_low r (k + 1) (by omega)
theorem findK_bound {u : Unt} {s : Int} : ∀ (k : Nat) (c : Int), -1 ≤ findK u s k c ∧ (findK u s k c < u.methods.length)
  | 0, c => by simp [findK]; omega
  | k + 1, c => by
    rw [findK]
    split
    · split
      · have h1 := ownM_bound (c := c) (s := s) u.methods 0
        omega
      · exact findK_bound k _
    · omega
theorem find_bound (u : Unt) (c s : Int) : -1 ≤ find u c s ∧ find u c s < u.methods.length := findK_bound _ _
theorem own_row {vs : List (List Value)} {sz : Nat} {h : Heap} {b n : Nat} {t : TypeId} (hx : ∀ x ∈ vs, x.length = sz) (hn : n = vs.length) (hb : h b = some (.cells vs.flatten.toArray t (0, 0))) : OwnC sz h (.slice (some ⟨b, 0, none⟩) n n) vs [b] := by
  subst hn
  exact ⟨hx, .inr ⟨b, _, [], t, rfl, Nat.le_refl _, by simpa using hb, by rw [List.append_nil, flat_length hx], rfl⟩⟩
theorem sees_c (us : List Value) (u : Unt) (x : Ins) (h : Heap) (hu : UntR h us u) (ok : CsOk u.classes) (h20 : x.kind = 20 → 0 ≤ x.a ∧ x.a < u.methods.length) (h21 : x.kind = 21 → 0 ≤ x.a ∧ x.a < u.classes.length) (hargs : ∀ m ∈ u.methods, m.args.length ≤ 2) :
    CallsH Tryz.prog 251 [.agg ⟨us⟩, .agg #[.int .i64 x.kind, .int .i64 x.a, .int .i64 x.b]] h fun o h' => match o with
      | .ret v => ∃ ws, seesL u x = some ws ∧ ws.length ≤ 3 ∧ h.le h' ∧ ∃ B, OwnI h' v ws B ∧ ∀ b ∈ B, h b = none
      | .pan c => seesL u x = none ∧ c = wrongP 0 ∧ h.le h' := by
  have hu0 := hu
  obtain ⟨p, cc, q, d, rfl, hcs, hms, hl1, hl2⟩ := hu.form
  refine outs Tryz.sigOk Tryz.func251 Tryz.F251 Tryz.ok251 rfl ?_
  conv => whnf
  have one : ∀ (ws : List Int), seesL u x = some ws → ws.length ≤ 3 → ∀ b t, h b = none → (∃ ws', seesL u x = some ws' ∧ ws'.length ≤ 3 ∧ h.le (h.set b (.cells (ws.map (.int .i64)).toArray t)) ∧ ∃ B, OwnI (h.set b (.cells (ws.map (.int .i64)).toArray t)) (.slice (some ⟨b, 0, none⟩) ws.length ws.length) ws' B ∧ ∀ b ∈ B, h b = none) := by
    intro ws h1 h2 b t hb
    refine ⟨ws, h1, h2, Heap.le_set_free (Heap.le_refl h) hb, [b], own_row (t := t) (by simp [int1]) (by simp) (by simp [Heap.set, flat_int1]), by simpa using hb⟩
  have two : ∀ k : Int, 0 ≤ k → k < u.methods.length → ∃ bb off p c, q = some ⟨bb, off, none⟩ ∧ rd h bb (off + k.toNat * 8 + 2) = some (.slice p (mth u k).args.length c) ∧ (mth u k).args.length ≤ 2 := by
    intro k h1 h2
    have hi : k.toNat < u.methods.length := by omega
    have e := hms.get hi
    obtain ⟨bb, off, vs, hq, e1, e2⟩ := e
    obtain ⟨p1, c1, p2, c2, p3, c3, p4, c4, e3, _⟩ := e2.form
    subst e3
    have hme : mth u k = u.methods[k.toNat] := mth_eq hi (by omega)
    exact ⟨bb, off, p1, c1, hq, by rw [hme]; exact rdn_get e1 (i := 2) rfl, by rw [hme]; exact hargs _ (List.getElem_mem _)⟩
  by_cases k1 : x.kind = 4 ∨ x.kind = 5 ∨ x.kind = 6 ∨ x.kind = 22
  · repeat' ((first | refine selPt (by omega) ?_ | refine selPf (by omega) ?_ | refine selNPt (by omega) ?_ | refine selNPf (by omega) ?_ | refine selP (fun _ => ?_) (fun _ => ?_) | refine selNP (fun _ => ?_) (fun _ => ?_) | refine selB (fun _ => ?_) (fun _ => ?_) | refine selNB (fun _ => ?_) (fun _ => ?_) | refine ob (by omega) ?_ | refine ar_in (by omega) (by omega) ?_ | refine ptr ?_ | refine new (fun b hb => ?_)) <;> conv => whnf)
    all_goals exact one [0] (by simp [seesL, k1]) (by simp) b _ hb
  by_cases k2 : x.kind = 7 ∨ x.kind = 8 ∨ x.kind = 9
  · repeat' ((first | refine selPt (by omega) ?_ | refine selPf (by omega) ?_ | refine selNPt (by omega) ?_ | refine selNPf (by omega) ?_ | refine selP (fun _ => ?_) (fun _ => ?_) | refine selNP (fun _ => ?_) (fun _ => ?_) | refine selB (fun _ => ?_) (fun _ => ?_) | refine selNB (fun _ => ?_) (fun _ => ?_) | refine ob (by omega) ?_ | refine ar_in (by omega) (by omega) ?_ | refine ptr ?_ | refine new (fun b hb => ?_)) <;> conv => whnf)
    all_goals exact one [1, 1] (by simp [seesL, k1, k2]) (by simp) b _ hb
  by_cases k3 : x.kind = 13 ∨ x.kind = 24
  · repeat' ((first | refine selPt (by omega) ?_ | refine selPf (by omega) ?_ | refine selNPt (by omega) ?_ | refine selNPf (by omega) ?_ | refine selP (fun _ => ?_) (fun _ => ?_) | refine selNP (fun _ => ?_) (fun _ => ?_) | refine selB (fun _ => ?_) (fun _ => ?_) | refine selNB (fun _ => ?_) (fun _ => ?_) | refine ob (by omega) ?_ | refine ar_in (by omega) (by omega) ?_ | refine ptr ?_ | refine new (fun b hb => ?_)) <;> conv => whnf)
    all_goals exact one [1] (by simp [seesL, k1, k2, k3]) (by simp) b _ hb
  by_cases k4 : x.kind = 10 ∨ x.kind = 14 ∨ x.kind = 17 ∨ x.kind = 19 ∨ x.kind = 23
  · repeat' ((first | refine selPt (by omega) ?_ | refine selPf (by omega) ?_ | refine selNPt (by omega) ?_ | refine selNPf (by omega) ?_ | refine selP (fun _ => ?_) (fun _ => ?_) | refine selNP (fun _ => ?_) (fun _ => ?_) | refine selB (fun _ => ?_) (fun _ => ?_) | refine selNB (fun _ => ?_) (fun _ => ?_) | refine ob (by omega) ?_ | refine ar_in (by omega) (by omega) ?_ | refine ptr ?_ | refine new (fun b hb => ?_)) <;> conv => whnf)
    all_goals exact one [2] (by simp [seesL, k1, k2, k3, k4]) (by simp) b _ hb
  by_cases k5 : x.kind = 15
  · repeat' ((first | refine selPt (by omega) ?_ | refine selPf (by omega) ?_ | refine selNPt (by omega) ?_ | refine selNPf (by omega) ?_ | refine selP (fun _ => ?_) (fun _ => ?_) | refine selNP (fun _ => ?_) (fun _ => ?_) | refine selB (fun _ => ?_) (fun _ => ?_) | refine selNB (fun _ => ?_) (fun _ => ?_) | refine ob (by omega) ?_ | refine ar_in (by omega) (by omega) ?_ | refine ptr ?_ | refine new (fun b hb => ?_)) <;> conv => whnf)
    all_goals exact one [2, 1] (by simp [seesL, k5]) (by simp) b _ hb
  by_cases k6 : x.kind = 16
  · repeat' ((first | refine selPt (by omega) ?_ | refine selPf (by omega) ?_ | refine selNPt (by omega) ?_ | refine selNPf (by omega) ?_ | refine selP (fun _ => ?_) (fun _ => ?_) | refine selNP (fun _ => ?_) (fun _ => ?_) | refine selB (fun _ => ?_) (fun _ => ?_) | refine selNB (fun _ => ?_) (fun _ => ?_) | refine ob (by omega) ?_ | refine ar_in (by omega) (by omega) ?_ | refine ptr ?_ | refine new (fun b hb => ?_)) <;> conv => whnf)
    all_goals exact one [2, 1, 0] (by simp [seesL, k6]) (by simp) b _ hb
  by_cases k7 : x.kind = 18
  · repeat' ((first | refine selPt (by omega) ?_ | refine selPf (by omega) ?_ | refine selNPt (by omega) ?_ | refine selNPf (by omega) ?_ | refine selP (fun _ => ?_) (fun _ => ?_) | refine selNP (fun _ => ?_) (fun _ => ?_) | refine selB (fun _ => ?_) (fun _ => ?_) | refine selNB (fun _ => ?_) (fun _ => ?_) | refine ob (by omega) ?_ | refine ar_in (by omega) (by omega) ?_ | refine ptr ?_ | refine new (fun b hb => ?_)) <;> conv => whnf)
    all_goals exact one [2, 0] (by simp [seesL, k7]) (by simp) b _ hb
  by_cases k8 : x.kind = 20
  · have hk := h20 k8
    have e := two x.a hk.1 hk.2
    obtain ⟨bb, off, p1, c1, hq, r1, r2⟩ := e
    repeat' ((first | refine selPt (by omega) ?_ | refine selPf (by omega) ?_ | refine selNPt (by omega) ?_ | refine selNPf (by omega) ?_ | refine selP (fun _ => ?_) (fun _ => ?_) | refine selNP (fun _ => ?_) (fun _ => ?_) | refine selB (fun _ => ?_) (fun _ => ?_) | refine selNB (fun _ => ?_) (fun _ => ?_) | refine ob (by omega) ?_ | refine ar_in (by omega) (by omega) ?_ | refine ptr ?_ | refine ptr' hq ?_ | refine ld r1 ?_) <;> conv => whnf)
    refine ob ⟨rfl, by omega, by show (_ : Int) * ((8 : Nat) : Int) ≤ _; omega, by omega⟩ ?_
    conv => whnf
    refine new (fun b hb => ?_)
    conv => whnf
    have := one (List.replicate (mth u x.a).args.length 0) (by simp [seesL, k8]) (by simpa using by omega) b 268 hb
    have hfl : (List.replicate (mth u x.a).args.length [Value.int .i64 0]).flatten = (List.replicate (mth u x.a).args.length (0 : Int)).map (.int .i64) := by
      rw [List.map_replicate, List.flatten_replicate_singleton]
    simp only [Int.toNat_natCast]
    rw [hfl]
    simpa using this
  by_cases k9 : x.kind = 21
  · have hk := h21 k9
    have hf := find_bound u x.a x.b
    have hc : calledI u x = find u x.a x.b := by simp [calledI, k9]
    have cb := calledBy_c _ u x h hu0 ok (by omega)
    rw [hc] at cb
    repeat' ((first | refine selPt (by omega) ?_ | refine selPf (by omega) ?_ | refine selNPt (by omega) ?_ | refine selNPf (by omega) ?_ | refine selP (fun _ => ?_) (fun _ => ?_) | refine selNP (fun _ => ?_) (fun _ => ?_) | refine selB (fun _ => ?_) (fun _ => ?_) | refine selNB (fun _ => ?_) (fun _ => ?_) | refine ob (by omega) ?_ | refine ar_in (by omega) (by omega) ?_ | refine ptr ?_ | refine call_p cb ?_) <;> conv => whnf)
    · exact ⟨by simp [seesL, k9]; omega, rfl, Heap.le_refl h⟩
    · have e := two (find u x.a x.b) (by omega) hf.2
      obtain ⟨bb, off, p1, c1, hq, r1, r2⟩ := e
      refine new (fun b hb => ?_)
      have hle : h.le (h.set b (.cells [Value.int .i64 2].toArray 268)) := Heap.le_set_free (Heap.le_refl h) hb
      have r1' : rd (h.set b (.cells [Value.int .i64 2].toArray 268)) bb (off + (find u x.a x.b).toNat * 8 + 2) = some (.slice p1 (mth u (find u x.a x.b)).args.length c1) := by
        rw [rd_ne (by rintro rfl; unfold rd at r1; rw [hb] at r1; cases r1)]; exact r1
      conv => whnf
      repeat' ((first | refine selP (fun _ => ?_) (fun _ => ?_) | refine selNP (fun _ => ?_) (fun _ => ?_) | refine selB (fun _ => ?_) (fun _ => ?_) | refine selNB (fun _ => ?_) (fun _ => ?_) | refine ptr' hq ?_ | refine ld r1' ?_ | refine ob (by omega) ?_ | refine ar_in (by omega) (by omega) ?_ | refine ptr ?_) <;> conv => whnf)
      refine raw_appz Tryz.sigOk rfl rfl rfl rfl rfl rfl rfl ⟨by show _ * 8 ≤ _; omega, by omega⟩ ?_
      refine app_own (h0 := h) (xs := [[.int .i64 2]]) (ys := List.replicate (mth u (find u x.a x.b)).args.length [.int .i64 0]) (B := [b]) (own_row (t := 268) (by simp) rfl (by simp [Heap.set, reps, wrls, wrl])) (by simpa using hb) hle rfl (by simp) (by simp) ?_ rfl (by simp; omega) (by simp; omega) ?_
      · have := cellsOk_int (List.replicate (mth u (find u x.a x.b)).args.length 0)
        rw [List.map_replicate] at this
        rw [List.flatten_replicate_singleton]; exact this
      intro v' h' B' g1 g2 g3 g4 g5
      conv => whnf
      refine ⟨2 :: List.replicate (mth u (find u x.a x.b)).args.length 0, by simp [seesL, k9]; omega, by simpa using by omega, g1, B', ?_, g3⟩
      simpa [OwnI, int1] using g2
  repeat' ((first | refine selPt (by omega) ?_ | refine selPf (by omega) ?_ | refine selNPt (by omega) ?_ | refine selNPf (by omega) ?_ | refine selP (fun _ => ?_) (fun _ => ?_) | refine selNP (fun _ => ?_) (fun _ => ?_) | refine selB (fun _ => ?_) (fun _ => ?_) | refine selNB (fun _ => ?_) (fun _ => ?_) | refine ob (by omega) ?_ | refine ar_in (by omega) (by omega) ?_ | refine ptr ?_) <;> conv => whnf)
  exact ⟨[], by simp only [seesL, k1, k2, k3, k4, k5, k6, k7, k8, k9, if_false], by simp, Heap.le_refl h, [], ⟨by simp, .inl ⟨rfl, rfl, rfl⟩⟩, by simp⟩
end Go.Proofs
namespace Go.Proofs
open Go.Vc
set_option maxRecDepth 100000
set_option maxHeartbeats 4000000
theorem MaH.mono {h0 h h' : Heap} {bm : Nat} {pre post : List Value} {M : Mch} {B : List Nat} (hM : MaH h0 h bm pre post M B) (hl : h.le h') : MaH h0 h' bm pre post M B := by
  obtain ⟨hle, ⟨mc, t, hb, ho⟩, nd, fr⟩ := hM
  exact ⟨Heap.le_trans hle hl, ⟨mc, t, hl _ _ hb, ho.keep (Keep.of_le hl _)⟩, nd, fr⟩
theorem rd_le {h h' : Heap} (hl : h.le h') {b i : Nat} {v : Value} (hr : rd h b i = some v) : rd h' b i = some v := by
  unfold rd at hr ⊢
  cases hh : h b with
  | none => rw [hh] at hr; cases hr
  | some o => rw [hh] at hr; rw [hl b o hh]; exact hr
theorem SpH.mono {h0 h h' : Heap} {bs bm bf off : Nat} {u : Unt} {m : Mth} {fs : List Frm} {f : Frm} {M : Mch} {B : List Nat} (hS : SpH h0 h bs bm bf off u m fs f M B) (hl : h.le h') : SpH h0 h' bs bm bf off u m fs f M B := by
  obtain ⟨hM, hf, ⟨htop, c, hr⟩, ⟨ms, us, ts, hst, hu, hm⟩, hout⟩ := hS
  exact ⟨hM.mono hl, hf, ⟨htop, c, rd_le hl hr⟩, ⟨ms, us, ts, hl _ _ hst, hu, hm⟩, hout⟩
theorem MaH.in {h0 h : Heap} {bm : Nat} {pre post : List Value} {M : Mch} {B : List Nat} (hM : MaH h0 h bm pre post M B) : ∀ b ∈ bm :: B, ∃ o, h b = some o := by
  obtain ⟨hle, ⟨mc, t, hb, ho⟩, nd, fr⟩ := hM
  intro b hb'
  rcases List.mem_cons.1 hb' with rfl | hb'
  · exact ⟨_, hb⟩
  · exact ho.in b hb'
theorem sub {a : Option Addr} {cap l size : Nat} {K : Option Addr → Prop} (hk : ∀ oa, (cap ≠ l → oa = a.map fun a => a.add (l * size)) → (cap = l → oa = a) → K oa) : Sub a cap l size K := by
  rw [Sub_def]; unfold Sub_; exact hk
theorem OwnC.rest {sz : Nat} {h : Heap} {p oa : Option Addr} {n cap l : Nat} {xs : List (List Value)} {B : List Nat} (ho : OwnC sz h (.slice p n cap) xs B) (hl : l ≤ n) (hn : n ≤ 1000000) (h1 : cap ≠ l → oa = p.map fun a => a.add (l * sz)) (h2 : cap = l → oa = p) :
    ReadC sz h (.slice oa (n - l) (cap - l)) (xs.drop l) := by
  obtain ⟨hx, ⟨he, rfl, _⟩ | ⟨b, c, rest, t, he, hc, hb, hlen, _⟩⟩ := ho
  · simp only [Value.slice.injEq] at he
    obtain ⟨rfl, rfl, rfl⟩ := he
    have : l = 0 := by omega
    subst this
    exact ⟨by simp, by simp, oa, 0, by simp, by simp, .inl (by simp)⟩
  · simp only [Value.slice.injEq] at he
    obtain ⟨rfl, rfl, rfl⟩ := he
    refine ⟨by simp; omega, fun x hm => hx x (List.mem_of_mem_drop hm), oa, cap - l, by simp, by simp; omega, ?_⟩
    by_cases hcl : cap = l
    · left
      apply List.eq_nil_of_length_eq_zero
      simp; omega
    · right
      refine ⟨b, l * sz, by rw [h1 hcl]; simp [add_off], ?_⟩
      have hlx := flat_length hx
      have ht : (xs.take l).flatten.length = l * sz := by
        rw [flat_length (sz := sz) (fun y hy => hx y (List.mem_of_mem_take hy)), List.length_take, Nat.min_eq_left hl]
      have hd : (xs.drop l).flatten.length = (xs.drop l).length * sz := flat_length (fun y hy => hx y (List.mem_of_mem_drop hy))
      have he : xs.flatten = (xs.take l).flatten ++ (xs.drop l).flatten := by rw [← List.flatten_append, List.take_append_drop]
      rw [rdn_cells hb _ _ (by rw [he]; simp only [List.length_append]; omega), he]
      rw [List.append_assoc, List.drop_append_of_le_length (by omega), ← ht, List.drop_length, List.nil_append, ← hd, List.take_left]
theorem OwnC.first {sz : Nat} {h : Heap} {p : Option Addr} {n cap l : Nat} {xs : List (List Value)} {B : List Nat} (ho : OwnC sz h (.slice p n cap) xs B) (hl : l ≤ n) : OwnC sz h (.slice p l cap) (xs.take l) B := by
  obtain ⟨hx, ⟨he, rfl, rfl⟩ | ⟨b, c, rest, t, he, hc, hb, hlen, rfl⟩⟩ := ho
  · simp only [Value.slice.injEq] at he
    obtain ⟨rfl, rfl, rfl⟩ := he
    have : l = 0 := by omega
    subst this
    exact ⟨by simp, .inl ⟨rfl, by simp, rfl⟩⟩
  · simp only [Value.slice.injEq] at he
    obtain ⟨rfl, rfl, rfl⟩ := he
    have he : xs.flatten = (xs.take l).flatten ++ (xs.drop l).flatten := by rw [← List.flatten_append, List.take_append_drop]
    refine ⟨fun x hm => hx x (List.mem_of_mem_take hm), .inr ⟨b, cap, (xs.drop l).flatten ++ rest, t, ?_, by simp; omega, by rw [hb, he]; simp, ?_, rfl⟩⟩
    · rw [List.length_take, Nat.min_eq_left hl]
    · rw [← hlen, he]; simp
theorem OwnC.nth {sz : Nat} {h : Heap} {p : Option Addr} {n cap : Nat} {xs : List (List Value)} {B : List Nat} (ho : OwnC sz h (.slice p n cap) xs B) {i : Nat} (hi : i < xs.length) :
    ∃ b, p = some ⟨b, 0, none⟩ ∧ rdn h b (0 + i * sz) sz = some xs[i] ∧ B = [b] := by
  have hs : xs = xs.take i ++ xs[i] :: xs.drop (i + 1) := by simp
  obtain ⟨b, c, pre, post, t, he, hb, hpl, hxl, hB, _⟩ := OwnC.at (show OwnC sz h (.slice p n cap) (xs.take i ++ xs[i] :: xs.drop (i + 1)) B by rw [← hs]; exact ho)
  simp only [Value.slice.injEq] at he
  refine ⟨b, he.1, ?_, hB⟩
  have hti : (xs.take i).length = i := by simp; omega
  rw [hti] at hpl
  rw [rdn_cells hb _ _ (by simp only [List.length_append]; omega)]
  rw [Nat.zero_add, ← hpl, List.append_assoc, List.drop_left, ← hxl, List.take_left]
def okS : List Int → List Vl → Bool
  | w :: ws, v :: vs => !((decide (w = 1) && v.ref) || (decide (w = 2) && !v.ref)) && okS ws vs
  | _, _ => true
def takeS (u : Unt) (x : Ins) (stk : List Vl) : Option (List Vl × List Vl) := match seesL u x with
  | none => none
  | some ws => if stk.length < ws.length then none else if okS ws (stk.drop (stk.length - ws.length)) then some (stk.drop (stk.length - ws.length), stk.take (stk.length - ws.length)) else none
theorem okS_step {ws : List Int} {vs : List Vl} : ∀ {i : Nat} (hw : i < ws.length) (hv : i < vs.length), okS (ws.drop i) (vs.drop i) = (!((decide (ws[i] = 1) && vs[i].ref) || (decide (ws[i] = 2) && !vs[i].ref)) && okS (ws.drop (i + 1)) (vs.drop (i + 1))) := by
  intro i hw hv
  rw [List.drop_eq_getElem_cons hw, List.drop_eq_getElem_cons hv, okS]
theorem map_drop_vl (l : List Vl) (k : Nat) : (l.map vl2).drop k = (l.drop k).map vl2 := by rw [List.map_drop]
structure InsOk (u : Unt) (x : Ins) : Prop where
  ok : CsOk u.classes
  args : ∀ m ∈ u.methods, m.args.length ≤ 2
  h20 : x.kind = 20 → 0 ≤ x.a ∧ x.a < u.methods.length
  h21 : x.kind = 21 → 0 ≤ x.a ∧ x.a < u.classes.length
theorem take_c (h0 h : Heap) (bs bm bf off : Nat) (u : Unt) (m : Mth) (fs : List Frm) (f : Frm) (M : Mch) (B : List Nat) (x : Ins) (hS : SpH h0 h bs bm bf off u m fs f M B) (hx : InsOk u x) (hst4 : f.stack.length ≤ 1000) :
    CallsH Tryz.prog 230 [.pointer (some ⟨bs, 0, none⟩), .agg #[.int .i64 x.kind, .int .i64 x.a, .int .i64 x.b]] h fun o h' => match o with
      | .ret v => ∃ took rest, takeS u x f.stack = some (took, rest) ∧ ∃ B' Bt, SpH h0 h' bs bm bf off u m fs { f with stack := rest } { M with frames := fs ++ [{ f with stack := rest }] } B' ∧ Ev h h' (bm :: B) (bm :: B') ∧
          OwnV h' v took Bt ∧ ∀ b ∈ Bt, b ∉ bm :: B' ∧ b ≠ bs ∧ h0 b = none
      | .pan c => takeS u x f.stack = none ∧ c = wrongP 0 ∧ Pn h0 bm h' := by
  have hS0 := hS
  obtain ⟨hM, hf, htop, ⟨ms, us, ts, hst, hu, hm⟩, hout⟩ := hS
  have hle := hM.le
  have hu0 := hu.le hle
  obtain ⟨p, cc, q, d, rfl, hcs, hms, hl1, hl2⟩ := hu.form
  obtain ⟨p1, c1, p2, c2, p3, c3, p4, c4, rfl, h1, h2, h3, h4, h5, h6, h7, h8, b1, b2, b3, b4⟩ := hm.form
  have ru : rdn h bs 9 2 = some [.slice p u.classes.length cc, .slice q u.methods.length d] := rdn_cells hst 2 9 (by simp [stp])
  refine outs Tryz.sigOk Tryz.func230 Tryz.F230 Tryz.ok230 rfl ?_
  conv => whnf
  refine ldn ru ?_
  conv => whnf
  refine callX_o (sees_c _ u x h hu0 hx.ok hx.h20 hx.h21 hx.args) ?_ ?_
  rotate_left
  · rintro c h' ⟨e1, e2, e3⟩
    exact ⟨by simp [takeS, e1], e2, hM.pn' e3⟩
  rintro v h1' ⟨ws, hws, hws3, l1, Bw, ow, nw⟩
  refine ⟨l1, ?_⟩
  obtain ⟨pw, cw, rfl, _⟩ := ow.form
  have hwl := len_map int1 ws
  conv => whnf
  obtain ⟨t, qq, r, v1, ps, cs, B2, hbf, hq, o2, hfr, r1, r2, _⟩ := (hS0.mono l1).stk
  have hlen := len_map vl2 f.stack
  refine ld r1 ?_
  conv => whnf
  refine ld r2 ?_
  conv => whnf
  refine ar_in (by omega) (by omega) ?_
  conv => whnf
  refine selP (fun g1 => ?_) (fun g1 => ?_)
  all_goals conv => whnf
  · exact ⟨by simp only [takeS, hws]; rw [if_pos (by omega)], rfl, hM.pn' l1⟩
  refine ld r1 ?_
  conv => whnf
  refine ld r2 ?_
  conv => whnf
  refine ob (by omega) ?_
  conv => whnf
  refine sub (fun oa k1 k2 => ?_)
  conv => whnf
  have hbe : (((f.stack.map vl2).length : Int) - ((ws.map int1).length : Int)).toNat = f.stack.length - ws.length := by omega
  have hrc := OwnC.rest (oa := oa) (l := (((f.stack.map vl2).length : Int) - ((ws.map int1).length : Int)).toNat) o2 (by omega) (by omega) k1 k2
  have hrv : ReadV h1' (.slice oa ((f.stack.map vl2).length - (((f.stack.map vl2).length : Int) - ((ws.map int1).length : Int)).toNat) (cs - (((f.stack.map vl2).length : Int) - ((ws.map int1).length : Int)).toNat)) (f.stack.drop (f.stack.length - ws.length)) := by
    rw [hbe] at hrc ⊢
    rw [map_drop_vl] at hrc
    exact hrc
  refine call_r (cloneV_c _ _ h1' hrv) ?_
  rintro v h2' ⟨l2, Bt, ot, nt⟩
  obtain ⟨pt, ct, rfl, _⟩ := ot.form
  conv => whnf
  have htl : ((f.stack.drop (f.stack.length - ws.length)).map vl2).length = ws.length := by simp; omega
  have l12 := Heap.le_trans l1 l2
  have ow2 : OwnI h2' (.slice pw (ws.map int1).length cw) ws Bw := ow.keep (Keep.of_le l2 _)
  have hnone : okS ws (f.stack.drop (f.stack.length - ws.length)) = false → takeS u x f.stack = none := by
    intro hx
    simp only [takeS, hws]
    rw [if_neg (by omega)]
    simp [hx]
  refine lps [0, 5, 6, 7, 43, 44, 45] [] (fun i : Nat => i ≤ ws.length ∧ okS ws (f.stack.drop (f.stack.length - ws.length)) = okS (ws.drop i) ((f.stack.drop (f.stack.length - ws.length)).drop i)) (fun i => ws.length - i)
    (fun i => ([.v (.pointer (some ⟨bs, 0, none⟩)), .v (.slice pw (ws.map int1).length cw), .v (.int .i64 (((f.stack.map vl2).length : Int) - ((ws.map int1).length : Int))), .v (.slice pt ((f.stack.drop (f.stack.length - ws.length)).map vl2).length ct), .v (.slice pt ((f.stack.drop (f.stack.length - ws.length)).map vl2).length ct), .v (.int .i64 ((f.stack.drop (f.stack.length - ws.length)).map vl2).length), .v (.int .i64 i)], [], h2')) 0 ⟨by omega, by simp⟩ rfl ?_
  rintro i ⟨hi, hg⟩
  conv => whnf
  refine selP (fun g2 => ?_) (fun g2 => ?_)
  all_goals conv => whnf
  · have hiw : i < ws.length := by omega
    have hiv : i < (f.stack.drop (f.stack.length - ws.length)).length := by simp; omega
    have e := ot.nth (i := i) (by simpa using hiv)
    obtain ⟨bb, hqt, e1, _⟩ := e
    have e' := ow2.nth (i := i) (by simpa using hiw)
    obtain ⟨bw, hqw, e2, _⟩ := e'
    rw [List.getElem_map] at e1 e2
    have hstep := okS_step hiw hiv
    rw [← hg] at hstep
    refine ob (by omega) ?_
    conv => whnf
    refine ptr' hqt ?_
    conv => whnf
    refine ldn e1 ?_
    conv => whnf
    refine ob (by omega) ?_
    conv => whnf
    refine ptr' hqw ?_
    conv => whnf
    have e3 : rd h2' bw (0 + i * 1) = some (.int .i64 ws[i]) := by simpa using rdn_get e2 (i := 0) rfl
    refine ld e3 ?_
    conv => whnf
    have again : ∀ {K : Value → Prop}, K (.int .i64 ws[i]) → Ld h2' bw (0 + i * 1) K := fun hk => ld e3 hk
    refine selP (fun q1 => ?_) (fun q1 => ?_)
    all_goals conv => whnf
    · refine selB (fun q3 => ?_) (fun q3 => ?_)
      all_goals conv => whnf
      · exact ⟨hnone (by rw [hstep, q3]; simp [q1]), rfl, hM.pn' l12⟩
      · refine ob (by omega) ?_
        conv => whnf
        refine ptr' hqw ?_
        conv => whnf
        refine ld e3 ?_
        conv => whnf
        refine selPf (by omega) ?_
        conv => whnf
        refine ar_in (by omega) (by omega) ?_
        conv => whnf
        refine lpn (i + 1) ⟨by omega, ?_⟩ (by omega) rfl
        rw [hstep, q3]; simp [q1]
    · refine ob (by omega) ?_
      conv => whnf
      refine ptr' hqw ?_
      conv => whnf
      refine ld e3 ?_
      conv => whnf
      refine selP (fun q2 => ?_) (fun q2 => ?_)
      all_goals conv => whnf
      · refine selNB (fun q3 => ?_) (fun q3 => ?_)
        all_goals conv => whnf
        · exact ⟨hnone (by rw [hstep, q3]; simp [q2]), rfl, hM.pn' l12⟩
        · refine ar_in (by omega) (by omega) ?_
          conv => whnf
          refine lpn (i + 1) ⟨by omega, ?_⟩ (by omega) rfl
          rw [hstep, q3]; simp [q2]
      · refine ar_in (by omega) (by omega) ?_
        conv => whnf
        refine lpn (i + 1) ⟨by omega, ?_⟩ (by omega) rfl
        rw [hstep]; simp [q1, q2]
  · have hie : i = ws.length := by omega
    have hok : okS ws (f.stack.drop (f.stack.length - ws.length)) = true := by
      rw [hg, hie, List.drop_length]; rfl
    have hts : takeS u x f.stack = some (f.stack.drop (f.stack.length - ws.length), f.stack.take (f.stack.length - ws.length)) := by
      simp only [takeS, hws]
      rw [if_neg (by omega), if_pos hok]
    have hS2 := hS0.mono l12
    obtain ⟨t', qq', r', v1', ps', cs', B2', hbf', hq', o2', hfr', r1', r2', reb⟩ := hS2.stk
    have hcap' : (f.stack.map vl2).length ≤ cs' := by
      obtain ⟨_, _, he, hc⟩ := o2'.form
      simp only [Value.slice.injEq] at he
      omega
    refine ld r1' ?_
    conv => whnf
    refine ld r1' ?_
    conv => whnf
    refine ld r2' ?_
    conv => whnf
    refine ob (by omega) ?_
    conv => whnf
    have hst' := o2'.first (l := f.stack.length - ws.length) (by simp)
    rw [← List.map_take] at hst'
    obtain ⟨e1, e2, e3, B', s1, s2⟩ := reb h2' _ B2' (f.stack.take (f.stack.length - ws.length)) f.pc (fun _ _ _ => rfl) hst' (fun b hb => .inl hb)
    have hbt : ∀ b ∈ Bt, h b = none := by
      intro b hb
      cases hh : h b with
      | none => rfl
      | some o => have := nt b hb; rw [l1 b o hh] at this; cases this
    have hin2 := ot.in
    refine st hbf' (by simp; omega) ?_
    conv => whnf
    rw [set_wr (i := 3) (by rw [hq']) (by simp)]
    have hnb : ∀ b ∈ Bt, b ≠ bf := by
      rintro b hb rfl
      have := hbt b hb
      have h9 : rd h b (off + 3) ≠ none := by
        have := hS0.stk
        obtain ⟨_, _, _, _, _, _, _, g1, _⟩ := this
        intro hx
        rw [hbt b hb] at g1; cases g1
      exact h9 (by unfold rd; rw [this])
    rw [hbe]
    refine ⟨_, _, hts, B', Bt, s1, ?_, ?_, ?_⟩
    · exact Ev.trans (Ev.of_le l12 (bm :: B) (fun b hb => .inl hb)) s2
    · refine ot.keep fun b hb o ho => ?_
      simp only [Heap.set, hnb b hb, if_false]
      exact ho
    · intro b hb
      refine ⟨fun hx => ?_, ?_, ?_⟩
      · rcases s2.new b hx with hy | hy
        · obtain ⟨o, ho⟩ := hM.in b hy
          rw [hbt b hb] at ho; cases ho
        · obtain ⟨o, ho⟩ := hin2 b hb
          rw [hy] at ho; cases ho
      · rintro rfl
        rw [hbt b hb] at hst; cases hst
      · cases hh : h0 b with
        | none => rfl
        | some o => have := hbt b hb; rw [hle b o hh] at this; cases this
end Go.Proofs
namespace Go.Proofs
open Go.Vc
set_option maxRecDepth 100000
set_option maxHeartbeats 4000000
theorem MaH.whole {h0 h : Heap} {bm : Nat} {pre post : List Value} {M : Mch} {B : List Nat} (hM : MaH h0 h bm pre post M B) :
    ∃ t vo vf vs B1 B2 B3, h bm = some (.cells (pre ++ mcells vo vf vs M ++ post).toArray t (0, 0)) ∧ OwnL OwnO 2 h vo M.objs B1 ∧ OwnL OwnF 4 h vf M.frames B2 ∧ OwnI h vs M.said B3 ∧ B = B1 ++ B2 ++ B3 ∧
      ∀ h' vo' vf' vs' M' B1' B2' B3', h' bm = some (.cells (pre ++ mcells vo' vf' vs' M' ++ post).toArray t (0, 0)) → OwnL OwnO 2 h' vo' M'.objs B1' → OwnL OwnF 4 h' vf' M'.frames B2' → OwnI h' vs' M'.said B3' →
        Nd (bm :: (B1' ++ B2' ++ B3')) → Ev h h' (bm :: B) (bm :: (B1' ++ B2' ++ B3')) → MaH h0 h' bm pre post M' (B1' ++ B2' ++ B3') := by
  obtain ⟨hle, ⟨mc, t, hb, vo, vf, vs, B1, B2, B3, rfl, h1, h2, h3, rfl⟩, nd, fr⟩ := hM
  refine ⟨t, vo, vf, vs, B1, B2, B3, hb, h1, h2, h3, rfl, ?_⟩
  intro h' vo' vf' vs' M' B1' B2' B3' k1 k2 k3 k4 k5 k6
  exact ⟨k6.le hle fr, ⟨_, t, k1, vo', vf', vs', B1', B2', B3', rfl, k2, k3, k4, rfl⟩, k5, k6.fresh hle fr⟩
theorem MaH.obj {h0 h : Heap} {bm : Nat} {pre post : List Value} {M : Mch} {B : List Nat} {l1 l2 : List Ob} {o : Ob} (hM : MaH h0 h bm pre post M B) (ho : M.objs = l1 ++ o :: l2) :
    ∃ bo c tm vf vs q r t v Bi, h bm = some (.cells (pre ++ mcells (.slice (some ⟨bo, 0, none⟩) M.objs.length c) vf vs M ++ post).toArray tm (0, 0)) ∧
      h bo = some (.cells (q ++ [.int .i64 o.cls, v] ++ r).toArray t (0, 0)) ∧ q.length = l1.length * 2 ∧ OwnV h v o.vals Bi ∧ (∀ b ∈ Bi, b ∈ B ∧ b ≠ bo) ∧ bo ∈ B ∧ bm ∉ B ∧
      ∀ h' vals', OwnV h' v vals' Bi → (∀ b, b ∉ Bi → h b ≠ none → h' b = h b) → ∃ B', MaH h0 h' bm pre post { M with objs := l1 ++ { o with vals := vals' } :: l2 } B' ∧ (∀ b, b ∈ bm :: B' ↔ b ∈ bm :: B) := by
  obtain ⟨t, vo, vf, vs, B1, B2, B3, hb, h1, h2, h3, rfl, reb⟩ := hM.whole
  have nd := hM.nd
  have hin := hM.in
  rw [ho] at h1
  obtain ⟨bo, c, x, q, r, t', Bo, Bi, rfl, _, hbo, hq, hxl, ⟨v, rfl, ov⟩, hcnt, reb1⟩ := h1.at keptO
  have hlen : M.objs.length = l1.length + l2.length + 1 := by rw [ho]; simp; omega
  have hbi : ∀ b ∈ Bi, b ∈ B1 ∧ b ≠ bo ∧ b ∉ Bo ∧ b ∉ B2 ∧ b ∉ B3 ∧ b ≠ bm := by
    intro b hb'
    have hp := List.count_pos_iff.2 hb'
    have hc := hcnt b
    have hn := nd b
    simp only [List.count_append, List.count_cons] at hc hn
    refine ⟨List.count_pos_iff.1 (by omega), ?_, fun hx => ?_, fun hx => ?_, fun hx => ?_, ?_⟩
    · rintro rfl; simp at hc; omega
    · have := List.count_pos_iff.2 hx; omega
    · have := List.count_pos_iff.2 hx; omega
    · have := List.count_pos_iff.2 hx; omega
    · rintro rfl; simp at hn; omega
  have hbo1 : bo ∈ B1 := (mem_of_count hcnt bo).2 (by simp)
  have hbm : bm ∉ B1 ++ B2 ++ B3 := by
    intro hx
    have := List.count_pos_iff.2 hx
    have hn := nd bm
    simp only [List.count_cons, beq_self_eq_true, if_true] at hn
    omega
  refine ⟨bo, c, t, vf, vs, q, r, t', v, Bi, by rw [hlen]; exact hb, hbo, hq, ov, fun b hb' => ⟨by simp [(hbi b hb').1], (hbi b hb').2.1⟩, by simp [hbo1], hbm, ?_⟩
  intro h' vals' k1 k2
  have hsame : ∀ b, b ∈ bm :: (B1 ++ B2 ++ B3) → b ∉ Bi → h' b = h b := by
    intro b hb' hn
    obtain ⟨o, ho⟩ := hin b hb'
    exact k2 b hn (by rw [ho]; simp)
  obtain ⟨B1', o1, o2⟩ := reb1 h' [.int .i64 o.cls, v] { o with vals := vals' } Bi (by rw [hsame bo (by simp [hbo1]) (fun hx => (hbi _ hx).2.1 rfl)]; exact hbo) rfl ⟨v, rfl, k1⟩ (fun b hb' o' ho' => by
    rw [hsame b (by have := (mem_of_count hcnt b).2 (by simp [hb']); simp [this]) (fun hx => (hbi _ hx).2.2.1 hb')]; exact ho')
  have hp : ∀ a, (bm :: (B1' ++ B2 ++ B3)).count a = (bm :: (B1 ++ B2 ++ B3)).count a := by
    intro a
    have := hcnt a
    have := o2 a
    simp only [List.count_append, List.count_cons] at *
    omega
  have hmem := mem_of_count hp
  refine ⟨B1' ++ B2 ++ B3, reb h' _ vf vs { M with objs := l1 ++ { o with vals := vals' } :: l2 } B1' B2 B3 ?_ o1 ?_ ?_ (nd.perm hp) ?_, hmem⟩
  · rw [hsame bm (by simp) (fun hx => (hbi _ hx).2.2.2.2.2 rfl)]; exact hb
  · exact h2.keep keptF fun b hb' o' ho' => by rw [hsame b (by simp [hb']) (fun hx => (hbi _ hx).2.2.2.1 hb')]; exact ho'
  · exact h3.keep fun b hb' o' ho' => by rw [hsame b (by simp [hb']) (fun hx => (hbi _ hx).2.2.2.2.1 hb')]; exact ho'
  · refine ⟨fun b hb' hn => k2 b (fun hx => hn (by have := (hbi b hx).1; simp [this])) hb', fun b hb' => .inl ((hmem b).1 hb')⟩
theorem SpH.obj {h0 h : Heap} {bs bm bf off : Nat} {u : Unt} {m : Mth} {fs : List Frm} {f : Frm} {M : Mch} {B : List Nat} {l1 l2 : List Ob} {o : Ob} (hS : SpH h0 h bs bm bf off u m fs f M B) (ho : M.objs = l1 ++ o :: l2) :
    ∃ bo c v Bi, rd h bm 0 = some (.slice (some ⟨bo, 0, none⟩) M.objs.length c) ∧ rd h bo (l1.length * 2) = some (.int .i64 o.cls) ∧ rd h bo (l1.length * 2 + 1) = some v ∧ OwnV h v o.vals Bi ∧
      ∀ h' vals', OwnV h' v vals' Bi → (∀ b, b ∉ Bi → h b ≠ none → h' b = h b) → ∃ B', SpH h0 h' bs bm bf off u m fs f { M with objs := l1 ++ { o with vals := vals' } :: l2 } B' ∧ Ev h h' (bm :: B) (bm :: B') := by
  obtain ⟨hM, hf, ⟨htop, c0, hr⟩, ⟨ms, us, ts, hst, hu, hm⟩, hout⟩ := hS
  obtain ⟨bo, c, tm, vf, vs, q, r, t, v, Bi, hb, hbo, hq, ov, hbi, hbob, hbm, reb⟩ := hM.obj ho
  refine ⟨bo, c, v, Bi, rd_mid hb (i := 0) (by simp) rfl, rd_mid hbo (i := 0) (by omega) rfl, rd_mid hbo (i := 1) (by omega) rfl, ov, ?_⟩
  intro h' vals' k1 k2
  obtain ⟨B', hM', hmem⟩ := reb h' vals' k1 k2
  have n1 : bm ∉ Bi := fun hx => hbm (hbi _ hx).1
  have n2 : bs ∉ Bi := fun hx => hout (by simp [(hbi _ hx).1])
  have e1 : h' bm = h bm := k2 bm n1 (by rw [hb]; simp)
  have e2 : h' bs = h bs := k2 bs n2 (by rw [hst]; simp)
  refine ⟨B', ⟨hM', hf, ⟨htop, c0, by unfold rd at hr ⊢; rw [e1]; exact hr⟩, ⟨ms, us, ts, by rw [e2]; exact hst, hu, hm⟩, fun hx => hout ((hmem bs).1 hx)⟩, ⟨fun b hb' hn => k2 b (fun hx => hn (by simp [(hbi b hx).1])) hb', fun b hb' => .inl ((hmem b).1 hb')⟩⟩
theorem split_at {α : Type} (l : List α) {i : Nat} (hi : i < l.length) : l = l.take i ++ l[i] :: l.drop (i + 1) := by simp
theorem classUp_n (p : Option Addr) (n c : Nat) (a b : Int) (h : Heap) (ha : a < 0) : Pure Tryz.prog 89 [.slice p n c, .int .i64 a, .int .i64 b] h (.bool false) := by
  refine pur Tryz.sigOk Tryz.func89 Tryz.F89 Tryz.ok89 rfl ?_
  conv => whnf
  refine lps [0, 2, 7] [] (fun x : Int => x < 0) (fun x => 0)
    (fun x => ([.v (.slice p n c), .v (.int .i64 b), .v (.int .i64 x)], [], h)) a ha rfl ?_
  rintro x hx
  conv => whnf
  refine selPf (by omega) ?_
  conv => whnf
  exact ⟨rfl, rfl⟩
theorem classUp_any (p : Option Addr) (n c : Nat) (cs : List Cls) (a b : Int) (h : Heap) (hr : ClsS h (.slice p n c) cs) (ok : CsOk cs) (hl : a < cs.length) :
    Pure Tryz.prog 89 [.slice p n c, .int .i64 a, .int .i64 b] h (.bool (up cs a b)) := by
  by_cases h0 : a < 0
  · rw [up_neg h0]; exact classUp_n p n c a b h h0
  · exact classUp_c p n c cs a b h hr ok (by omega) hl
end Go.Proofs
namespace Go.Proofs
open Go.Vc
set_option maxRecDepth 100000
set_option maxHeartbeats 4000000
def noOb : Ob := ⟨0, []⟩
def objN (l : List Ob) (n : Int) : Ob := l.getD (n - 1).toNat noOb
theorem objN_eq {l : List Ob} {n : Int} {i : Nat} (hi : i < l.length) (hn : n = i + 1) : objN l n = l[i] := by
  have : (n - 1).toNat = i := by omega
  simp [objN, this, hi]
theorem SpH.objAt {h0 h : Heap} {bs bm bf off : Nat} {u : Unt} {m : Mth} {fs : List Frm} {f : Frm} {M : Mch} {B : List Nat} (hS : SpH h0 h bs bm bf off u m fs f M B) {n : Int} (h1 : 0 < n) (h2 : n ≤ M.objs.length) :
    ∃ bo c v Bi, rd h bm 0 = some (.slice (some ⟨bo, 0, none⟩) M.objs.length c) ∧ rd h bo (0 + (n - 1).toNat * 2) = some (.int .i64 (objN M.objs n).cls) ∧ rd h bo (0 + (n - 1).toNat * 2 + 1) = some v ∧ OwnV h v (objN M.objs n).vals Bi ∧
      ∀ h' vals', OwnV h' v vals' Bi → (∀ b, b ∉ Bi → h b ≠ none → h' b = h b) → ∃ B', SpH h0 h' bs bm bf off u m fs f { M with objs := M.objs.set (n - 1).toNat { objN M.objs n with vals := vals' } } B' ∧ Ev h h' (bm :: B) (bm :: B') := by
  have hi : (n - 1).toNat < M.objs.length := by omega
  obtain ⟨bo, c, v, Bi, r1, r2, r3, ov, reb⟩ := hS.obj (split_at M.objs hi)
  have hti : (M.objs.take (n - 1).toNat).length = (n - 1).toNat := by simp; omega
  have hob : objN M.objs n = M.objs[(n - 1).toNat] := objN_eq hi (by omega)
  rw [hti] at r2 r3
  rw [hob]
  refine ⟨bo, c, v, Bi, r1, by simpa using r2, by simpa using r3, ov, fun h' vals' k1 k2 => ?_⟩
  have hset : M.objs.set (n - 1).toNat { M.objs[(n - 1).toNat] with vals := vals' } = M.objs.take (n - 1).toNat ++ { M.objs[(n - 1).toNat] with vals := vals' } :: M.objs.drop ((n - 1).toNat + 1) := by
    rw [List.set_eq_take_append_cons_drop, if_pos hi]
  rw [hset]
  exact reb h' vals' k1 k2
theorem SpH.mp {h0 h : Heap} {bs bm bf off : Nat} {u : Unt} {m : Mth} {fs : List Frm} {f : Frm} {M : Mch} {B : List Nat} (hS : SpH h0 h bs bm bf off u m fs f M B) :
    rd h bs 0 = some (.pointer (some ⟨bf, off, none⟩)) ∧ rd h bs 11 = some (.pointer (some ⟨bm, 0, none⟩)) ∧ (∃ c, rd h bm 1 = some (.slice (some ⟨bf, 0, none⟩) (fs.length + 1) c)) ∧
      ∃ p c q d, UntR h0 [.slice p u.classes.length c, .slice q u.methods.length d] u ∧ rd h bs 9 = some (.slice p u.classes.length c) ∧ rd h bs 10 = some (.slice q u.methods.length d) ∧ rdn h bs 9 2 = some [.slice p u.classes.length c, .slice q u.methods.length d] ∧
        ∃ p2 c2, rd h bs 6 = some (.slice p2 m.code.length c2) ∧ Row 3 InsR h0 (.slice p2 m.code.length c2) m.code := by
  obtain ⟨hM, hf, ⟨htop, c0, hr⟩, ⟨ms, us, ts, hst, hu, hm⟩, hout⟩ := hS
  obtain ⟨p, cc, q, d, rfl, hcs, hms, hl1, hl2⟩ := hu.form
  obtain ⟨p1, c1, p2, c2, p3, c3, p4, c4, rfl, h1, h2, h3, h4, h5, h6, h7, h8, b1, b2, b3, b4⟩ := hm.form
  exact ⟨rd_cells hst rfl, rd_cells hst rfl, ⟨c0, hr⟩, p, cc, q, d, hu, rd_cells hst rfl, rd_cells hst rfl, rdn_cells hst 2 9 (by simp [stp]), p2, c2, rd_cells hst rfl, h6⟩
theorem thing_c (h0 h : Heap) (bs bm bf off : Nat) (u : Unt) (m : Mth) (fs : List Frm) (f : Frm) (M : Mch) (B : List Nat) (x : Vl) (g : Nat) (caps : List Value) (so : Int → Bool) (hS : SpH h0 h bs bm bf off u m fs f M B)
    (hg : (g = 272 ∧ ∃ c1 c2, caps = [c1, c2]) ∨ (g = 275 ∧ ∃ c1, caps = [c1]) ∨ (g = 261 ∧ caps = []))
    (hx : 0 ≤ x.n ∧ x.n ≤ M.objs.length) (hl : M.objs.length ≤ 1000) (hso : 0 < x.n → Pure Tryz.prog g (.int .i64 (objN M.objs x.n).cls :: caps) h (.bool (so (objN M.objs x.n).cls))) :
    CallsH Tryz.prog 260 [.pointer (some ⟨bs, 0, none⟩), .agg #[.bool x.ref, .int .i64 x.n], .func (.func g) #[] ⟨caps⟩] h fun o h' => h' = h ∧ match o with
      | .ret v => 0 < x.n ∧ so (objN M.objs x.n).cls = true ∧ ∃ bo c, rd h bm 0 = some (.slice (some ⟨bo, 0, none⟩) M.objs.length c) ∧ v = .pointer (some ⟨bo, 0 + (x.n - 1).toNat * 2, none⟩)
      | .pan c => (0 < x.n ∧ so (objN M.objs x.n).cls = false ∧ c = wrongP 0) ∨ (x.n = 0 ∧ c = wrongP 2) := by
  obtain ⟨r1, r2, _, _⟩ := hS.mp
  by_cases hpos : 0 < x.n
  · have hob := hS.objAt hpos hx.2
    obtain ⟨bo, c, v, Bi, q1, q2, q3, _, _⟩ := hob
    have hc := hso hpos
    rcases hg with ⟨rfl, d1, d2, rfl⟩ | ⟨rfl, d1, rfl⟩ | ⟨rfl, rfl⟩
    all_goals
      refine outs Tryz.sigOk Tryz.func260 Tryz.F260 Tryz.ok260 rfl ?_
      conv => whnf
      refine selPt hpos ?_
      conv => whnf
      repeat' ((first | refine ld r2 ?_ | refine ld q1 ?_ | refine ld q2 ?_ | refine ob (by omega) ?_ | refine ar_in (by omega) (by omega) ?_ | refine ptr ?_) <;> conv => whnf)
      refine callX_p hc ?_
      conv => whnf
      refine selNB (fun k => ?_) (fun k => ?_)
      all_goals conv => whnf
      · exact ⟨rfl, .inl ⟨hpos, k, rfl⟩⟩
      · refine selPf (by omega) ?_
        conv => whnf
        repeat' ((first | refine ld r2 ?_ | refine ld q1 ?_ | refine ld q2 ?_ | refine ob (by omega) ?_ | refine ar_in (by omega) (by omega) ?_ | refine ptr ?_) <;> conv => whnf)
        exact ⟨rfl, hpos, k, bo, c, q1, rfl⟩
  · rcases hg with ⟨rfl, d1, d2, rfl⟩ | ⟨rfl, d1, rfl⟩ | ⟨rfl, rfl⟩
    all_goals
      refine outs Tryz.sigOk Tryz.func260 Tryz.F260 Tryz.ok260 rfl ?_
      conv => whnf
      refine selPf hpos ?_
      conv => whnf
      refine selPt (by omega) ?_
      conv => whnf
      exact ⟨rfl, .inr ⟨by omega, rfl⟩⟩
end Go.Proofs
namespace Go.Proofs
open Go.Vc
set_option maxRecDepth 100000
set_option maxHeartbeats 4000000
theorem ofClass1_c (h : Heap) (b1 b2 bs : Nat) (p : Option Addr) (n cc : Nat) (cs : List Cls) (c k : Int) (r1 : rd h b1 0 = some (.pointer (some ⟨bs, 0, none⟩))) (r2 : rd h b2 0 = some (.int .i64 k)) (r3 : rd h bs 9 = some (.slice p n cc))
    (hr : ClsS h (.slice p n cc) cs) (ok : CsOk cs) (hc : c < cs.length) :
    Pure Tryz.prog 272 [.int .i64 c, .pointer (some ⟨b1, 0, none⟩), .pointer (some ⟨b2, 0, none⟩)] h (.bool (up cs c k)) := by
  refine pur Tryz.sigOk Tryz.func272 Tryz.F272 Tryz.ok272 rfl ?_
  conv => whnf
  repeat' ((first | refine ld r1 ?_ | refine ld r2 ?_ | refine ld r3 ?_ | refine ob (by omega) ?_ | refine ar_in (by omega) (by omega) ?_ | refine ptr ?_) <;> conv => whnf)
  refine callX_p (classUp_any _ _ _ _ _ _ _ hr ok hc) ?_
  conv => whnf
  exact ⟨rfl, rfl⟩
def ofT (u : Unt) (c k : Int) : Bool := up u.classes c k
theorem ofClass_c (h0 h : Heap) (bs bm bf off : Nat) (u : Unt) (m : Mth) (fs : List Frm) (f : Frm) (M : Mch) (B : List Nat) (x : Vl) (k : Int) (hS : SpH h0 h bs bm bf off u m fs f M B) (ok : CsOk u.classes)
    (hx : 0 ≤ x.n ∧ x.n ≤ M.objs.length) (hl : M.objs.length ≤ 1000) (hc : 0 < x.n → (objN M.objs x.n).cls < u.classes.length) :
    CallsH Tryz.prog 253 [.pointer (some ⟨bs, 0, none⟩), .agg #[.bool x.ref, .int .i64 x.n], .int .i64 k] h fun o h' => h.le h' ∧ match o with
      | .ret v => 0 < x.n ∧ up u.classes (objN M.objs x.n).cls k = true ∧ ∃ bo c, rd h' bm 0 = some (.slice (some ⟨bo, 0, none⟩) M.objs.length c) ∧ v = .pointer (some ⟨bo, 0 + (x.n - 1).toNat * 2, none⟩)
      | .pan c => (0 < x.n ∧ up u.classes (objN M.objs x.n).cls k = false ∧ c = wrongP 0) ∨ (x.n = 0 ∧ c = wrongP 2) := by
  refine outs Tryz.sigOk Tryz.func253 Tryz.F253 Tryz.ok253 rfl ?_
  conv => whnf
  refine new (fun b1 hb1 => ?_)
  conv => whnf
  refine new (fun b2 hb2 => ?_)
  have l1 := Heap.le_set_free (Heap.le_refl h) hb1 (o := .cells [Value.pointer (some ⟨bs, 0, none⟩)].toArray 204)
  have l2 := Heap.le_set_free (Heap.le_refl _) hb2 (o := .cells [Value.int .i64 k].toArray 3)
  have ne : b1 ≠ b2 := by rintro rfl; simp [Heap.set] at hb2
  have l12 := Heap.le_trans l1 l2
  have q1 : rd ((h.set b1 (.cells [Value.pointer (some ⟨bs, 0, none⟩)].toArray 204)).set b2 (.cells [Value.int .i64 k].toArray 3)) b1 0 = some (.pointer (some ⟨bs, 0, none⟩)) := by
    rw [rd_ne ne, rd_set]; rfl
  have q2 : rd ((h.set b1 (.cells [Value.pointer (some ⟨bs, 0, none⟩)].toArray 204)).set b2 (.cells [Value.int .i64 k].toArray 3)) b2 0 = some (.int .i64 k) := by
    rw [rd_set]; rfl
  have hS2 := hS.mono l12
  obtain ⟨_, _, _, p, cc, q, d, hu, r9, _, _, _⟩ := hS2.mp
  have hcs := (hu.le hS2.ma.le).form
  obtain ⟨p', c', q', d', he, hcs, _⟩ := hcs
  simp only [List.cons.injEq, Value.slice.injEq, true_and, and_true] at he
  obtain ⟨⟨rfl, rfl⟩, _⟩ := he
  conv => whnf
  generalize (h.set b1 (.cells [Value.pointer (some ⟨bs, 0, none⟩)].toArray 204)).set b2 (.cells [Value.int .i64 k].toArray 3) = h2 at *
  refine ld q1 ?_
  conv => whnf
  refine call_o (thing_c h0 h2 bs bm bf off u m fs f M B x _ _ (fun c => up u.classes c k) hS2 (.inl ⟨rfl, _, _, rfl⟩) hx hl (fun hp => ofClass1_c h2 b1 b2 bs _ _ _ _ _ _ q1 q2 r9 hcs ok (hc hp))) ?_ ?_
  · rintro v h' ⟨rfl, e1, e2, e3⟩
    conv => whnf
    exact ⟨l12, e1, e2, e3⟩
  · rintro c h' ⟨rfl, e1⟩
    exact ⟨l12, e1⟩
theorem inArray1_c (h : Heap) (b1 : Nat) (c k : Int) (r1 : rd h b1 0 = some (.int .i64 k)) :
    Pure Tryz.prog 275 [.int .i64 c, .pointer (some ⟨b1, 0, none⟩)] h (.bool (decide (c = if k = 0 then -1 else -2))) := by
  refine pur Tryz.sigOk Tryz.func275 Tryz.F275 Tryz.ok275 rfl ?_
  conv => whnf
  refine ld r1 ?_
  conv => whnf
  refine call_p (arrayClass_c _ _) ?_
  conv => whnf
  exact ⟨rfl, rfl⟩
theorem doThings1_c (h : Heap) (c : Int) : Pure Tryz.prog 261 [.int .i64 c] h (.bool (decide (c < 0))) := by
  refine pur Tryz.sigOk Tryz.func261 Tryz.F261 Tryz.ok261 rfl ?_
  conv => whnf
  exact ⟨rfl, rfl⟩
def arrC (k : Int) : Int := if k = 0 then -1 else -2
theorem inArray_c (h0 h : Heap) (bs bm bf off : Nat) (u : Unt) (m : Mth) (fs : List Frm) (f : Frm) (M : Mch) (B : List Nat) (x : Vl) (k n : Int) (hS : SpH h0 h bs bm bf off u m fs f M B)
    (hx : 0 ≤ x.n ∧ x.n ≤ M.objs.length) (hl : M.objs.length ≤ 1000) :
    CallsH Tryz.prog 262 [.pointer (some ⟨bs, 0, none⟩), .agg #[.bool x.ref, .int .i64 x.n], .int .i64 k, .int .i64 n] h fun o h' => h.le h' ∧ match o with
      | .ret v => 0 < x.n ∧ (objN M.objs x.n).cls = arrC k ∧ 0 ≤ n ∧ n < (objN M.objs x.n).vals.length ∧ ∃ bo c bv cv nv, rd h' bm 0 = some (.slice (some ⟨bo, 0, none⟩) M.objs.length c) ∧ rd h' bo (0 + (x.n - 1).toNat * 2 + 1) = some (.slice (some ⟨bv, 0, none⟩) nv cv) ∧ v = .pointer (some ⟨bv, 0 + n.toNat * 2, none⟩)
      | .pan c => (0 < x.n ∧ (objN M.objs x.n).cls ≠ arrC k ∧ c = wrongP 0) ∨ (x.n = 0 ∧ c = wrongP 2) ∨ (0 < x.n ∧ (objN M.objs x.n).cls = arrC k ∧ ¬ (0 ≤ n ∧ n < (objN M.objs x.n).vals.length) ∧ c = wrongP 3) := by
  refine outs Tryz.sigOk Tryz.func262 Tryz.F262 Tryz.ok262 rfl ?_
  conv => whnf
  refine new (fun b1 hb1 => ?_)
  have l1 := Heap.le_set_free (Heap.le_refl h) hb1 (o := .cells [Value.int .i64 k].toArray 3)
  have q1 : rd (h.set b1 (.cells [Value.int .i64 k].toArray 3)) b1 0 = some (.int .i64 k) := by
    rw [rd_set]; rfl
  have hS2 := hS.mono l1
  conv => whnf
  generalize h.set b1 (.cells [Value.int .i64 k].toArray 3) = h2 at *
  refine call_o (thing_c h0 h2 bs bm bf off u m fs f M B x _ _ (fun c => decide (c = arrC k)) hS2 (.inr (.inl ⟨rfl, _, rfl⟩)) hx hl (fun hp => inArray1_c h2 b1 _ k q1)) ?_ ?_
  · rintro v h' ⟨rfl, e1, e2, bo, c, e3, rfl⟩
    have e2 := of_decide_eq_true e2
    have hob := hS2.objAt e1 hx.2
    obtain ⟨bo', c', v, Bi, s1, s2, s3, ov, _⟩ := hob
    rw [e3] at s1
    simp only [Option.some.injEq, Value.slice.injEq, Addr.mk.injEq, and_true, true_and] at s1
    obtain ⟨rfl, rfl⟩ := s1
    have ov0 := ov
    obtain ⟨pv, cv, rfl, hcv⟩ := ov.form
    have hlen := len_map vl2 (objN M.objs x.n).vals
    conv => whnf
    refine selP (fun g1 => ?_) (fun g1 => ?_)
    all_goals conv => whnf
    · exact ⟨l1, .inr (.inr ⟨e1, e2, by omega, rfl⟩)⟩
    refine ld s3 ?_
    conv => whnf
    refine selP (fun g2 => ?_) (fun g2 => ?_)
    all_goals conv => whnf
    · exact ⟨l1, .inr (.inr ⟨e1, e2, by omega, rfl⟩)⟩
    have hi : n.toNat < ((objN M.objs x.n).vals.map vl2).length := by omega
    have e := ov0.nth hi
    obtain ⟨bv, hpv, _, _⟩ := e
    refine ld s3 ?_
    conv => whnf
    refine ob (by omega) ?_
    conv => whnf
    refine ptr' hpv ?_
    conv => whnf
    subst hpv
    exact ⟨l1, e1, e2, by omega, by omega, bo, c, bv, cv, _, e3, s3, rfl⟩
  · rintro c h' ⟨rfl, e1⟩
    refine ⟨l1, ?_⟩
    rcases e1 with ⟨e1, e2, e3⟩ | e1
    · exact .inl ⟨e1, of_decide_eq_false e2, e3⟩
    · exact .inr (.inl e1)
end Go.Proofs
namespace Go.Proofs
open Go.Vc
set_option maxRecDepth 100000
set_option maxHeartbeats 4000000
theorem mul64_c (n : Int) (h : Heap) (hn : n = 0 ∨ n = 1 ∨ n = 2 ∨ n = 3 ∨ n = 4 ∨ n = 5 ∨ n = 6) : Pure Tryz.prog 280 [.int .u64 1, .int .u64 n] h (.tuple #[.int .u64 0, .int .u64 n]) := by
  rcases hn with rfl | rfl | rfl | rfl | rfl | rfl | rfl
  all_goals
    refine pur Tryz.sigOk Tryz.func280 Tryz.F280 Tryz.ok280 rfl ?_
    conv => whnf
    repeat' ((first | refine ar_any ?_ | refine raw_eq rfl rfl (fun w => rfl) (fun w => rfl) ?_) <;> conv => whnf)
    exact ⟨rfl, rfl⟩
theorem bitsMul_c (n : Int) (h : Heap) (hn : n = 0 ∨ n = 1 ∨ n = 2 ∨ n = 3 ∨ n = 4 ∨ n = 5 ∨ n = 6) : Pure Tryz.prog 274 [.int .u64 1, .int .u64 n] h (.tuple #[.int .u64 0, .int .u64 n]) := by
  refine pur Tryz.sigOk Tryz.func274 Tryz.F274 Tryz.ok274 rfl ?_
  conv => whnf
  refine call_p (mul64_c n h hn) ?_
  conv => whnf
  exact ⟨rfl, rfl⟩
theorem ar_c {k : IntKind} {x r : Int} {K : Int → Prop} (h : k.wrap x = r) (hk : K r) : Ar k x K := ar_any (by rw [h]; exact hk)
theorem wrap_u64 {x : Int} (h0 : 0 ≤ x) (h1 : x ≤ 1000000) : IntKind.u64.wrap x = x := by
  simp [IntKind.wrap, IntKind.bits, IntKind.signed]; omega
theorem min_nat (a b : Nat) : Nat.min a b = min a b := rfl
theorem repeat_c (t n : Int) (v : Value) (h : Heap) (hr : ReadI h v [t]) (hn : 0 ≤ n ∧ n ≤ 6) :
    Rets Tryz.prog 258 [v, .int .i64 n] h fun v h' => h.le h' ∧ ∃ B, OwnI h' v (List.replicate n.toNat t) B ∧ ∀ b ∈ B, h b = none := by
  obtain ⟨_, _, p, c, rfl, hc, hrd⟩ := hr
  have hrq : ∃ b off, p = some ⟨b, off, none⟩ ∧ rdn h b off 1 = some [.int .i64 t] := by
    rcases hrd with hx | ⟨b, off, h1, h2⟩
    · simp at hx
    · exact ⟨b, off, h1, by simpa [int1] using h2⟩
  obtain ⟨b0, off0, rfl, hrq⟩ := hrq
  refine rets Tryz.sigOk Tryz.func258 Tryz.F258 Tryz.ok258 rfl ?_
  conv => whnf
  refine selPf (by omega) ?_
  conv => whnf
  refine ar_c (r := 1) (wrap_u64 (by simp) (by simp)) ?_
  conv => whnf
  refine ar_c (wrap_u64 (by omega) (by omega)) ?_
  conv => whnf
  refine call_p (bitsMul_c n h (by omega)) ?_
  conv => whnf
  refine selPf (by omega) ?_
  conv => whnf
  refine ar_in (by omega) (by omega) ?_
  conv => whnf
  refine ob ⟨rfl, by omega, by show (_ : Int) * ((8 : Nat) : Int) ≤ _; omega, by omega⟩ ?_
  conv => whnf
  refine new (fun b hb => ?_)
  conv => whnf
  have hle : h.le (h.set b (.cells (List.replicate n.toNat [Value.int .i64 0]).flatten.toArray 3)) := Heap.le_set_free (Heap.le_refl h) hb
  have hb' : (h.set b (.cells (List.replicate n.toNat [Value.int .i64 0]).flatten.toArray 3)) b = some (.cells (List.replicate n.toNat (Value.int .i64 0)).toArray 3 (0, 0)) := by
    rw [List.flatten_replicate_singleton]; simp [Heap.set]
  refine raw_cp (vs := List.replicate (min 1 n.toNat) (.int .i64 t)) Tryz.sigOk rfl rfl rfl rfl rfl (.inr ⟨b0, off0, rfl, ?_⟩) hb' (by simp; omega) ?_ ?_
  · by_cases h0 : n = 0
    · subst h0; rfl
    · have h1 : Nat.min (List.map int1 [t]).length n.toNat = 1 := by show min 1 n.toNat = 1; omega
      have h2 : min 1 n.toNat = 1 := by omega
      rw [h1, h2]
      exact rdn_le' hle hrq
  · have := cellsOk_int (List.replicate (min 1 n.toNat) t); rwa [List.map_replicate] at this
  have hcell : ∀ k : Nat, k ≤ n.toNat → ∀ m, m ≤ k → k + m ≤ n.toNat → wrls (List.replicate k (Value.int .i64 t) ++ List.replicate (n.toNat - k) (Value.int .i64 0)) k (List.replicate m (.int .i64 t)) = List.replicate (k + m) (Value.int .i64 t) ++ List.replicate (n.toNat - (k + m)) (Value.int .i64 0) := by
    intro k hk m hm hkm
    have := wrls_app (List.replicate m (Value.int .i64 t)) (List.replicate k (Value.int .i64 t)) (List.replicate (n.toNat - k) (Value.int .i64 0)) (by simp; omega)
    rw [List.length_replicate] at this
    rw [this]
    simp only [List.length_replicate, List.drop_replicate, List.replicate_append_replicate]
    congr 2
    omega
  have hc1 : wrls (List.replicate n.toNat (Value.int .i64 0)) 0 (List.replicate (min 1 n.toNat) (.int .i64 t)) = List.replicate (min 1 n.toNat) (Value.int .i64 t) ++ List.replicate (n.toNat - min 1 n.toNat) (Value.int .i64 0) := by
    have := wrls_app (List.replicate (min 1 n.toNat) (Value.int .i64 t)) [] (List.replicate n.toNat (Value.int .i64 0)) (by simp; omega)
    simpa [List.drop_replicate] using this
  rw [hc1, set_set]
  have hmin : ((Nat.min (List.map int1 [t]).length n.toNat : Nat) : Int) = ((min 1 n.toNat : Nat) : Int) := by rw [min_nat]; simp
  rw [hmin]
  conv => whnf
  refine lps [7, 8] [] (fun k : Nat => k ≤ n.toNat ∧ (0 < n → 1 ≤ k)) (fun k => n.toNat - k)
    (fun k => ([.v (.slice (some ⟨b, 0, none⟩) n.toNat n.toNat), .v (.int .i64 k)], [], h.set b (.cells (List.replicate k (Value.int .i64 t) ++ List.replicate (n.toNat - k) (Value.int .i64 0)).toArray 3))) (min 1 n.toNat) ⟨by omega, by omega⟩ rfl ?_
  rintro k ⟨hk, hk1⟩
  conv => whnf
  refine selP (fun g => ?_) (fun g => ?_)
  all_goals conv => whnf
  · have hkn : k < n.toNat := by omega
    have hb2 : (h.set b (.cells (List.replicate k (Value.int .i64 t) ++ List.replicate (n.toNat - k) (Value.int .i64 0)).toArray 3)) b = some (.cells (List.replicate k (Value.int .i64 t) ++ List.replicate (n.toNat - k) (Value.int .i64 0)).toArray 3 (0, 0)) := by simp [Heap.set]
    refine ob (by omega) ?_
    conv => whnf
    refine sub (fun oa k1 k2 => ?_)
    have hoa : oa = some ⟨b, k, none⟩ := by rw [k1 (by omega)]; simp [add_off]
    subst hoa
    conv => whnf
    refine ob (by omega) ?_
    conv => whnf
    refine raw_cp (vs := List.replicate (min k (n.toNat - k)) (.int .i64 t)) Tryz.sigOk rfl rfl rfl rfl rfl (.inr ⟨b, 0, rfl, ?_⟩) hb2 (by simp; omega) ?_ ?_
    · have h1 : Nat.min (k : Int).toNat (n.toNat - (k : Int).toNat) = min k (n.toNat - k) := by rw [min_nat]; simp
      rw [h1]
      show rdn _ b 0 (min k (n.toNat - k) * 1) = _
      rw [Nat.mul_one, rdn_cells hb2 _ _ (by simp; omega), List.drop_zero, List.take_append_of_le_length (by simp; omega), List.take_replicate]
      congr 2; omega
    · have := cellsOk_int (List.replicate (min k (n.toNat - k)) t); rwa [List.map_replicate] at this
    rw [hcell k (by omega) _ (by omega) (by omega), set_set]
    have hm2 : ((Nat.min (k : Int).toNat (n.toNat - (k : Int).toNat) : Nat) : Int) = ((min k (n.toNat - k) : Nat) : Int) := by rw [min_nat, Int.toNat_natCast]
    rw [hm2]
    conv => whnf
    refine ar_in (by omega) (by omega) ?_
    conv => whnf
    refine lpn (k + min k (n.toNat - k)) ⟨by omega, by omega⟩ (by omega) rfl
  · have hkn : k = n.toNat := by omega
    subst hkn
    refine ⟨Heap.le_set_free (Heap.le_refl h) hb, [b], own_row (t := 3) (fun x hx => by simp only [List.map_replicate] at hx; rw [List.eq_of_mem_replicate hx]; rfl) (by simp) ?_, by simpa using hb⟩
    simp [Heap.set, flat_int1, List.map_replicate, int1]
end Go.Proofs
namespace Go.Proofs
open Go.Vc
set_option maxRecDepth 100000
set_option maxHeartbeats 4000000
theorem SpH.grow {h0 h : Heap} {bs bm bf off : Nat} {u : Unt} {m : Mth} {fs : List Frm} {f : Frm} {M : Mch} {B : List Nat} (hS : SpH h0 h bs bm bf off u m fs f M B) (hl : M.objs.length ≤ 1000) :
    ∃ t p c vf vs, h bm = some (.cells (mcells (.slice p M.objs.length c) vf vs M).toArray t (0, 0)) ∧
      ∀ {bytes : Nat} {zero : List Value} {el : TypeId} {m' : Nat} (a : Ob) (Bv : List Nat) (y : List Value) (K : Value → Heap → Prop), OwnO h y a Bv → Nd Bv → (∀ b ∈ Bv, b ∉ bm :: B ∧ b ≠ bs ∧ h0 b = none) → m' = 1 → y.length = 2 → cellsOk y = true → zero.length = 2 → bytes ≤ 1000 →
        (∀ p' c' h2, h2 bm = h bm → h2 bs = h bs → h0.le h2 → (∃ B', SpH h0 (h2.set bm (.cells (mcells (.slice p' (M.objs.length + 1) c') vf vs M).toArray t (0, 0))) bs bm bf off u m fs f { M with objs := M.objs ++ [a] } B' ∧
          Ev h (h2.set bm (.cells (mcells (.slice p' (M.objs.length + 1) c') vf vs M).toArray t (0, 0))) ((bm :: B) ++ Bv) (bm :: B')) → K (.slice p' (M.objs.length + 1) c') h2) → App bytes 2 zero el h p M.objs.length c m' y K := by
  obtain ⟨hM, hf, ⟨htop, c0, hr⟩, ⟨ms, us, ts, hst, hu, hm⟩, hout⟩ := hS
  have nd := hM.nd
  have hin := hM.in
  have hle := hM.le
  have hfr := hM.fr
  obtain ⟨t, vo, vf, vs, B1, B2, B3, hb, h1, h2, h3, rfl, reb⟩ := hM.whole
  obtain ⟨p, c, rfl, hc⟩ := h1.form
  refine ⟨t, p, c, vf, vs, by simpa using hb, ?_⟩
  intro bytes zero el m' a Bv y K k1 k2 k3 k4 k5 k6 k7 k8 k9
  have hv : ∀ b ∈ Bv, b ∉ B1 ∧ b ∉ B2 ∧ b ∉ B3 ∧ b ≠ bm ∧ b ≠ bs := by
    intro b hb'
    have := k3 b hb'
    simp at this
    grind
  have hB : ∀ b ∈ B1, b ∉ B2 ∧ b ∉ B3 ∧ b ≠ bm ∧ b ≠ bs := by
    intro b hb'
    have hp := List.count_pos_iff.2 hb'
    have hn := nd b
    simp only [List.count_append, List.count_cons] at hn
    refine ⟨fun hx => ?_, fun hx => ?_, ?_, ?_⟩
    · have := List.count_pos_iff.2 hx; omega
    · have := List.count_pos_iff.2 hx; omega
    · rintro rfl; simp at hn; omega
    · rintro rfl; exact hout (by simp [hb'])
  have hbm : bm ∉ B1 ++ B2 ++ B3 := by
    intro hx
    have := List.count_pos_iff.2 hx
    have hn := nd bm
    simp only [List.count_cons, beq_self_eq_true, if_true] at hn
    omega
  have hnd1 : Nd (B1 ++ B2 ++ B3) := nd.less fun a => by simp only [List.count_cons]; omega
  have hndv : Nd (B1 ++ Bv) := by
    have := Nd.swap (A := B1) (X := B2 ++ B3) (X' := Bv) (hnd1.perm fun a => by simp only [List.count_append]; omega) k2 (fun b hb' => .inr (hv b hb').1)
    exact this
  refine app_ownL keptO inO (h0 := h0) h1 k1 hndv (fun b hb' => ?_) hle k4 k5 k6 k7 (by have := Nat.mul_le_mul (show M.objs.length + 1 ≤ 1001 by omega) k8; omega) (by omega) ?_
  · rcases List.mem_append.1 hb' with hb' | hb'
    · exact hfr b (by simp [hb'])
    · exact (k3 b hb').2.2
  intro v' h2' B1' g1 g2 g3 g4 g5
  obtain ⟨p', c', rfl, _⟩ := g2.form
  have hlen : (M.objs ++ [a]).length = M.objs.length + 1 := by simp
  rw [hlen] at g2 ⊢
  have same : ∀ b, b ∉ B1 → b ∉ Bv → h b ≠ none → h2' b = h b := fun b n1 n2 n3 => g5.old b n3 (by simp [n1, n2])
  have e1 : h2' bm = h bm := same bm (fun hx => hbm (by simp [hx])) (fun hx => (hv _ hx).2.2.2.1 rfl) (by rw [hb]; simp)
  have e2 : h2' bs = h bs := same bs (fun hx => hout (by simp [hx])) (fun hx => (hv _ hx).2.2.2.2 rfl) (by rw [hst]; simp)
  refine k9 p' c' h2' e1 e2 g1 ?_
  have n1' : bm ∉ B1' := by
    intro hx
    rcases g5.new bm hx with hy | hy
    · rcases List.mem_append.1 hy with hy | hy
      · exact hbm (by simp [hy])
      · exact (hv _ hy).2.2.2.1 rfl
    · rw [hb] at hy; cases hy
  have keepset : ∀ C : List Nat, (∀ b ∈ C, b ≠ bm ∧ b ∉ B1 ∧ b ∉ Bv) → Keep h (h2'.set bm (.cells (mcells (.slice p' (M.objs.length + 1) c') vf vs M).toArray t (0, 0))) C := by
    intro C hC b hb' o ho
    have := hC b hb'
    simp only [Heap.set, this.1, if_false]
    rw [same b this.2.1 this.2.2 (by rw [ho]; simp)]; exact ho
  have d2 : ∀ b ∈ B2, b ≠ bm ∧ b ∉ B1 ∧ b ∉ Bv := fun b hb' => ⟨fun hx => hbm (by simp [← hx, hb']), fun hx => (hB b hx).1 hb', fun hx => (hv b hx).2.1 hb'⟩
  have d3 : ∀ b ∈ B3, b ≠ bm ∧ b ∉ B1 ∧ b ∉ Bv := fun b hb' => ⟨fun hx => hbm (by simp [← hx, hb']), fun hx => (hB b hx).2.1 hb', fun hx => (hv b hx).2.2.1 hb'⟩
  have hev : Ev h (h2'.set bm (.cells (mcells (.slice p' (M.objs.length + 1) c') vf vs M).toArray t (0, 0))) ((bm :: (B1 ++ B2 ++ B3)) ++ Bv) (bm :: (B1' ++ B2 ++ B3)) := by
    refine ⟨fun b hb' hn => ?_, fun b hb' => ?_⟩
    · have : b ≠ bm := fun hx => hn (by simp [hx])
      simp only [Heap.set, this, if_false]
      exact same b (fun hx => hn (by simp [hx])) (fun hx => hn (by simp [hx])) hb'
    · have : b ∈ B1' ∨ b ∈ bm :: (B2 ++ B3) := by simp at hb' ⊢; grind
      rcases this with hx | hx
      · exact (g5.new b hx).imp (fun hy => by simp at hy ⊢; grind) id
      · exact .inl (by simp at hx ⊢; grind)
  have hnd' : Nd (bm :: (B1' ++ B2 ++ B3)) := by
    have := Nd.swap (A := bm :: (B2 ++ B3)) (X := B1) (X' := B1') (nd.perm fun a => by simp only [List.count_append, List.count_cons]; omega) g3 (fun b hb' => ?_)
    · exact this.perm fun a => by simp only [List.count_append, List.count_cons]; omega
    · rcases g5.new b hb' with hx | hx
      · rcases List.mem_append.1 hx with hx | hx
        · exact .inl hx
        · have := hv b hx; exact .inr (by simp; grind)
      · refine .inr fun hy => ?_
        obtain ⟨o, ho⟩ := hin b (by simp at hy ⊢; grind)
        rw [hx] at ho; cases ho
  have hM' : MaH h0 (h2'.set bm (.cells (mcells (.slice p' (M.objs.length + 1) c') vf vs M).toArray t (0, 0))) bm [] [] { M with objs := M.objs ++ [a] } (B1' ++ B2 ++ B3) := by
    have hle2 : h0.le (h2'.set bm (.cells (mcells (.slice p' (M.objs.length + 1) c') vf vs M).toArray t (0, 0))) := Heap.le_set_free g1 (hfr bm (by simp))
    refine ⟨hle2, ⟨mcells (.slice p' (M.objs.length + 1) c') vf vs M, t, by simp [Heap.set], _, vf, vs, B1', B2, B3, rfl, ?_, ?_, ?_, rfl⟩, hnd', ?_⟩
    · refine g2.keep keptO fun b hb' o ho => ?_
      have : b ≠ bm := by rintro rfl; exact n1' hb'
      simp only [Heap.set, this, if_false]; exact ho
    · exact h2.keep keptF (keepset B2 d2)
    · exact h3.keep (keepset B3 d3)
    · intro b hb'
      have : b ∈ B1' ∨ b ∈ bm :: (B1 ++ B2 ++ B3) := by simp at hb' ⊢; grind
      rcases this with hx | hx
      · exact g4 b hx
      · exact hfr b hx
  refine ⟨B1' ++ B2 ++ B3, ⟨hM', hf, ⟨htop, c0, ?_⟩, ⟨ms, us, ts, ?_, hu, hm⟩, ?_⟩, hev⟩
  · have e3 : rd h bm 1 = some vf := rd_mid hb (i := 1) (by simp) rfl
    rw [hr] at e3
    have e4 : rd (h2'.set bm (.cells (mcells (.slice p' (M.objs.length + 1) c') vf vs M).toArray t (0, 0))) bm 1 = some vf := by rw [rd_set]; rfl
    rw [e4, ← e3]
  · have : bs ≠ bm := fun hx => hout (by simp [hx])
    simp only [Heap.set, this, if_false]
    rw [e2]; exact hst
  · intro hx
    rcases hev.new bs hx with hy | hy
    · rcases List.mem_append.1 hy with hy | hy
      · exact hout hy
      · exact (hv _ hy).2.2.2.2 rfl
    · rw [hst] at hy; cases hy
theorem leadingTo_c (n : Int) (h : Heap) : Pure Tryz.prog 191 [.int .i64 n] h (.agg #[.bool true, .int .i64 n]) := by
  refine pur Tryz.sigOk Tryz.func191 Tryz.F191 Tryz.ok191 rfl ?_
  conv => whnf
  exact ⟨rfl, rfl⟩
def nothing (t : Int) : Vl := ⟨!decide (t = 1), 0⟩
theorem addOb_c (h0 h : Heap) (bs bm bf off : Nat) (u : Unt) (m : Mth) (fs : List Frm) (f : Frm) (M : Mch) (B : List Nat) (k : Int) (types : List Int) (vt : Value) (Bt : List Nat) (hS : SpH h0 h bs bm bf off u m fs f M B)
    (ot : OwnI h vt types Bt) (htl : types.length ≤ 1000) (hl : M.objs.length ≤ 1000) :
    CallsH Tryz.prog 256 [.pointer (some ⟨bs, 0, none⟩), .int .i64 k, vt] h fun o h' => match o with
      | .ret _ => f.stack.length < 4 ∧ ∃ B', SpH h0 h' bs bm bf off u m fs { f with stack := f.stack ++ [⟨true, M.objs.length + 1⟩] } { M with objs := M.objs ++ [⟨k, types.map nothing⟩], frames := fs ++ [{ f with stack := f.stack ++ [⟨true, M.objs.length + 1⟩] }] } B' ∧ Ev h h' (bm :: B) (bm :: B')
      | .pan c => 4 ≤ f.stack.length ∧ c = wrongP 0 ∧ Pn h0 bm h' := by
  obtain ⟨pt, ct, rfl, _⟩ := ot.form
  have hlt := len_map int1 types
  have hin := hS.ma.in
  refine outs Tryz.sigOk Tryz.func256 Tryz.F256 Tryz.ok256 rfl ?_
  conv => whnf
  refine lps [0, 1, 6, 9, 10, 11] [] (fun s : Nat × Heap × Option Addr × Nat × List Nat => s.1 ≤ types.length ∧ h.le s.2.1 ∧ OwnV s.2.1 (.slice s.2.2.1 s.1 s.2.2.2.1) ((types.take s.1).map nothing) s.2.2.2.2 ∧ ∀ b ∈ s.2.2.2.2, h b = none) (fun s => types.length - s.1)
    (fun s => ([.v (.pointer (some ⟨bs, 0, none⟩)), .v (.int .i64 k), .v (.slice s.2.2.1 s.1 s.2.2.2.1), .v (.slice pt (types.map int1).length ct), .v (.int .i64 (types.map int1).length), .v (.int .i64 s.1)], [], s.2.1))
    (0, h, none, 0, []) ⟨by omega, Heap.le_refl h, ⟨by simp, .inl ⟨rfl, by simp, rfl⟩⟩, by simp⟩ rfl ?_
  rintro ⟨i, h1, p, c, Bv⟩ ⟨hi, l1, ov, nv⟩
  simp only at hi l1 ov nv ⊢
  conv => whnf
  refine selP (fun g => ?_) (fun g => ?_)
  all_goals conv => whnf
  · have hil : i < types.length := by omega
    have e := (show OwnI h1 (.slice pt (types.map int1).length ct) types Bt from ot.keep (Keep.of_le l1 _)).nth (i := i) (by simpa using hil)
    obtain ⟨b, hq, e1, _⟩ := e
    rw [List.getElem_map] at e1
    have e2 : rd h1 b (0 + i * 1) = some (.int .i64 types[i]) := by simpa using rdn_get e1 (i := 0) rfl
    refine ob (by omega) ?_
    conv => whnf
    refine ptr' hq ?_
    conv => whnf
    refine ld e2 ?_
    conv => whnf
    refine call_p (nothingOf_c _ _) ?_
    conv => whnf
    have hti : ((types.take i).map nothing).length = i := by simp; omega
    refine app_own (h0 := h) (ys := [vl2 (nothing types[i])]) ov nv l1 rfl rfl (by simp [vl2]) rfl rfl (by simp; omega) (by simp; omega) ?_
    intro v' h2 B2 g1 g2 g3 g4 g5
    have g2' : OwnV h2 v' ((types.take (i + 1)).map nothing) B2 := by
      unfold OwnV
      rw [← List.take_append_getElem hil, List.map_append, List.map_append]
      exact g2
    obtain ⟨p', c', rfl, _⟩ := g2'.form
    have hti2 : (((types.take (i + 1)).map nothing).map vl2).length = i + 1 := by simp; omega
    rw [hti2] at g2' ⊢
    conv => whnf
    refine ar_in (by omega) (by omega) ?_
    conv => whnf
    exact lpn (i + 1, h2, p', c', B2) ⟨by omega, g1, g2', g3⟩ (by simp only; omega) rfl
  · have hie : i = types.length := by omega
    subst hie
    rw [List.take_length] at ov
    have hS1 := hS.mono l1
    obtain ⟨r1, r2, _, _⟩ := hS1.mp
    obtain ⟨t, po, co, vf, vs, hb, grow⟩ := hS1.grow hl
    have r3 : rd h1 bm 0 = some (.slice po M.objs.length co) := rd_cells hb rfl
    have hfresh : ∀ b ∈ Bv, b ∉ bm :: B ∧ b ≠ bs ∧ h0 b = none := by
      intro b hb'
      have hn := nv b hb'
      refine ⟨fun hx => ?_, ?_, ?_⟩
      · obtain ⟨o, ho⟩ := hin b hx; rw [hn] at ho; cases ho
      · rintro rfl
        have := hS.mp.1
        unfold rd at this; rw [hn] at this; cases this
      · cases hh : h0 b with
        | none => rfl
        | some o => rw [hS.ma.le b o hh] at hn; cases hn
    repeat' ((first | exact trivial | refine ld r2 ?_ | refine ld r3 ?_ | refine And.intro ?_ ?_) <;> conv => whnf)
    all_goals
      refine grow ⟨k, types.map nothing⟩ Bv _ _ ⟨_, rfl, ov⟩ ov.nd hfresh rfl rfl rfl rfl (by simp) ?_
      rintro p' c' h2 e1 e2 e3 ⟨B', hS3, ev3⟩
      have r2' : rd h2 bs 11 = some (.pointer (some ⟨bm, 0, none⟩)) := by unfold rd at r2 ⊢; rw [e2]; exact r2
      have hb2 := e1.trans hb
      conv => whnf
      (try refine ld r2' ?_)
      conv => whnf
      have hset : wrls (mcells (.slice po M.objs.length co) vf vs M) 0 [.slice p' (M.objs.length + 1) c'] = mcells (.slice p' (M.objs.length + 1) c') vf vs M := rfl
      have q1 := hS3.mp.2.1
      have q2 : rd (h2.set bm (.cells (mcells (.slice p' (M.objs.length + 1) c') vf vs M).toArray t (0, 0))) bm 0 = some (.slice p' (M.objs.length + 1) c') := by rw [rd_set]; rfl
      refine st hb2 (by simp [mcells]) ?_
      rw [hset]
      generalize h2.set bm (.cells (mcells (.slice p' (M.objs.length + 1) c') vf vs M).toArray t (0, 0)) = h3 at *
      conv => whnf
      refine ld q1 ?_
      conv => whnf
      refine ld q2 ?_
      conv => whnf
      refine call_p (leadingTo_c _ _) ?_
      conv => whnf
      have ev : Ev h h3 (bm :: B) (bm :: B') :=
        Ev.trans (Ev.of_le l1 ((bm :: B) ++ Bv) (fun b hb' => (List.mem_append.1 hb').imp id (nv b))) ev3
      refine call_o (push_c h0 h3 bs bm bf off u m fs f _ B' ⟨true, ((M.objs.length + 1 : Nat) : Int)⟩ hS3) ?_ ?_
      · rintro v h' ⟨k1, B2, k2, k3⟩
        conv => whnf
        have hc : (⟨true, ((M.objs.length + 1 : Nat) : Int)⟩ : Vl) = ⟨true, M.objs.length + 1⟩ := by simp
        rw [hc] at k2
        exact ⟨k1, B2, k2, ev.trans k3⟩
      · rintro c h' ⟨k1, k2, k3⟩
        exact ⟨k1, k2, k3⟩
end Go.Proofs
namespace Go.Proofs
open Go.Vc
set_option maxRecDepth 100000
set_option maxHeartbeats 4000000
def noVl : Vl := ⟨false, 0⟩
abbrev Res := Except Int (List Ob × Frm)
def pushS (objs : List Ob) (f : Frm) (v : Vl) : Res := if f.stack.length < 4 then .ok (objs, { f with stack := f.stack ++ [v] }) else .error 0
def addS (k : Int) (types : List Int) (objs : List Ob) (f : Frm) : Res := pushS (objs ++ [⟨k, types.map nothing⟩]) f ⟨true, objs.length + 1⟩
def thingS (objs : List Ob) (n : Int) (so : Bool) : Except Int Ob := if 0 < n ∧ so = false then .error 0 else if n = 0 then .error 2 else .ok (objN objs n)
def putAt (l : List Vl) (i : Int) (v : Vl) : List Vl := l.set i.toNat v
def putOb (objs : List Ob) (n : Int) (vals : List Vl) : List Ob := objs.set (n - 1).toNat { objN objs n with vals := vals }
def arrS (objs : List Ob) (x : Vl) (k n : Int) : Except Int Ob :=
  match thingS objs x.n (decide ((objN objs x.n).cls = arrC k)) with
  | .error e => .error e
  | .ok o => if 0 ≤ n ∧ n < o.vals.length then .ok o else .error 3
def thingsS (u : Unt) (x : Ins) (took : List Vl) (objs : List Ob) (f : Frm) : Res :=
  let a := took.getD 0 noVl
  let b := took.getD 1 noVl
  let c := took.getD 2 noVl
  if x.kind = 12 then addS x.a (flds u.classes x.a) objs f
  else if x.kind = 13 then (if 0 ≤ a.n ∧ a.n ≤ 6 then addS (arrC x.a) (List.replicate a.n.toNat (if x.a = 0 then 1 else 8)) objs f else .error 4)
  else if x.kind = 14 then (match thingS objs a.n (decide ((objN objs a.n).cls < 0)) with
    | .error e => .error e
    | .ok o => pushS objs f ⟨false, o.vals.length⟩)
  else if x.kind = 15 then (match arrS objs a x.a b.n with
    | .error e => .error e
    | .ok o => pushS objs f (o.vals.getD b.n.toNat noVl))
  else if x.kind = 16 then (match arrS objs a x.a b.n with
    | .error e => .error e
    | .ok o => .ok (putOb objs a.n (putAt o.vals b.n c), f))
  else if x.kind = 17 then (match thingS objs a.n (up u.classes (objN objs a.n).cls x.a) with
    | .error e => .error e
    | .ok o => pushS objs f (o.vals.getD x.b.toNat noVl))
  else if x.kind = 18 then (match thingS objs a.n (up u.classes (objN objs a.n).cls x.a) with
    | .error e => .error e
    | .ok o => .ok (putOb objs a.n (putAt o.vals x.b b), f))
  else if x.kind = 19 then (if 0 < a.n ∧ tyIn u.classes (typeOf (objN objs a.n).cls) (8 + x.a) = false then .error 5 else pushS objs f a)
  else .ok (objs, f)
theorem thingS_ok {objs : List Ob} {n : Int} {so : Bool} (h1 : 0 < n) (h2 : so = true) : thingS objs n so = .ok (objN objs n) := by
  subst h2; simp [thingS]; omega
theorem thingS_bad {objs : List Ob} {n : Int} {so : Bool} (h1 : 0 < n) (h2 : so = false) : thingS objs n so = .error 0 := by
  subst h2; simp [thingS, h1]
theorem thingS_nil {objs : List Ob} {n : Int} {so : Bool} (h1 : n = 0) : thingS objs n so = .error 2 := by
  subst h1; simp [thingS]
theorem arrS_ok {objs : List Ob} {x : Vl} {k n : Int} (h1 : 0 < x.n) (h2 : (objN objs x.n).cls = arrC k) (h3 : 0 ≤ n ∧ n < (objN objs x.n).vals.length) : arrS objs x k n = .ok (objN objs x.n) := by
  unfold arrS; rw [thingS_ok h1 (by simp [h2])]; simp [h3]
theorem arrS_bad {objs : List Ob} {x : Vl} {k n : Int} (h1 : 0 < x.n) (h2 : (objN objs x.n).cls ≠ arrC k) : arrS objs x k n = .error 0 := by
  unfold arrS; rw [thingS_bad h1 (by simp [h2])]
theorem arrS_nil {objs : List Ob} {x : Vl} {k n : Int} (h1 : x.n = 0) : arrS objs x k n = .error 2 := by
  unfold arrS; rw [thingS_nil h1]
theorem arrS_place {objs : List Ob} {x : Vl} {k n : Int} (h1 : 0 < x.n) (h2 : (objN objs x.n).cls = arrC k) (h3 : ¬ (0 ≤ n ∧ n < (objN objs x.n).vals.length)) : arrS objs x k n = .error 3 := by
  unfold arrS; rw [thingS_ok h1 (by simp [h2])]; simp only; rw [if_neg h3]
theorem valType_c (h : Heap) (bo n c : Nat) (k cls : Int) (hr : rd h bo (0 + (k - 1).toNat * 2) = some (.int .i64 cls)) (hk : 0 < k ∧ k ≤ n) (hn : n ≤ 1000) (hc : -2 ≤ cls ∧ cls ≤ 900) :
    Pure Tryz.prog 264 [.slice (some ⟨bo, 0, none⟩) n c, .agg #[.bool true, .int .i64 k]] h (.int .i64 (typeOf cls)) := by
  refine pur Tryz.sigOk Tryz.func264 Tryz.F264 Tryz.ok264 rfl ?_
  conv => whnf
  refine selPf (by omega) ?_
  conv => whnf
  repeat' ((first | refine ld hr ?_ | refine ob (by omega) ?_ | refine ar_in (by omega) (by omega) ?_ | refine ptr ?_) <;> conv => whnf)
  refine call_p (objType_c _ _ (by omega)) ?_
  conv => whnf
  exact ⟨rfl, rfl⟩
theorem wr_all {pre x x' post : List Value} {n : Nat} (hn : n = pre.length) (hl : x'.length = x.length) : wrls (pre ++ x ++ post) n x' = pre ++ x' ++ post := by
  subst hn
  rw [List.append_assoc, wrls_app x' pre (x ++ post) (by simp; omega), hl, List.drop_left]
def TookT (u : Unt) (x : Ins) (took : List Vl) (n : Nat) : Prop :=
  (x.kind = 13 → ∃ a, took = [a]) ∧ (x.kind = 14 → ∃ a, took = [a] ∧ a.ref = true) ∧ (x.kind = 15 → ∃ a b, took = [a, b] ∧ a.ref = true) ∧ (x.kind = 16 → ∃ a b c, took = [a, b, c] ∧ a.ref = true) ∧
    (x.kind = 17 → ∃ a, took = [a] ∧ a.ref = true) ∧ (x.kind = 18 → ∃ a b, took = [a, b] ∧ a.ref = true) ∧ (x.kind = 19 → ∃ a, took = [a] ∧ a.ref = true) ∧ ∀ v ∈ took, v.ref = true → 0 ≤ v.n ∧ v.n ≤ n
def ObsOk (u : Unt) (objs : List Ob) : Prop := ∀ o ∈ objs, (-2 ≤ o.cls ∧ o.cls < u.classes.length) ∧ (0 ≤ o.cls → o.vals.length = (flds u.classes o.cls).length)
theorem flds_up {cs : List Cls} (ok : CsOk cs) : ∀ (k : Nat) {a b : Int}, a.toNat < k → a < cs.length → up cs a b = true → (flds cs b).length ≤ (flds cs a).length
  | 0, a, b, h, _, _ => by omega
  | k + 1, a, b, h, hl, hu => by
    by_cases h0 : 0 ≤ a
    · rw [up_step ok h0 hl] at hu
      by_cases hab : a = b
      · subst hab; exact Nat.le_refl _
      · have hs := ok.super h0 hl
        simp only [hab, decide_false, Bool.false_or] at hu
        by_cases hz : 0 < a
        · have := flds_up ok k (a := superOf cs a) (b := b) (by omega) (by omega) hu
          rw [flds_step ok hz hl, List.length_append]
          omega
        · rw [up_neg (by omega)] at hu; cases hu
    · rw [up_neg (by omega)] at hu; cases hu
theorem OwnC.put {h : Heap} {p : Option Addr} {n c : Nat} {l : List Vl} {B : List Nat} (ho : OwnV h (.slice p n c) l B) {i : Nat} (hi : i < l.length) :
    ∃ b pre x post t, p = some ⟨b, 0, none⟩ ∧ n = l.length ∧ h b = some (.cells (pre ++ x ++ post).toArray t (0, 0)) ∧ pre.length = i * 2 ∧ x = vl2 l[i] ∧ B = [b] ∧
      ∀ h' v, h' b = some (.cells (pre ++ vl2 v ++ post).toArray t (0, 0)) → OwnV h' (.slice p n c) (l.set i v) B := by
  have hm : l.map vl2 = (l.take i).map vl2 ++ vl2 l[i] :: (l.drop (i + 1)).map vl2 := by
    have := congrArg (List.map vl2) (split_at l hi)
    simpa only [List.map_append, List.map_cons] using this
  unfold OwnV at ho
  rw [hm] at ho
  obtain ⟨b, c', pre, post, t, he, hb, hpl, hxl, hB, reb⟩ := ho.at
  simp only [Value.slice.injEq] at he
  obtain ⟨rfl, rfl, rfl⟩ := he
  refine ⟨b, pre, vl2 l[i], post, t, rfl, ?_, hb, ?_, rfl, hB, fun h' v hb' => ?_⟩
  · simp; omega
  · rw [hpl]; simp; omega
  · have := reb h' (vl2 v) hb' rfl
    unfold OwnV
    rw [List.set_eq_take_append_cons_drop, if_pos hi, List.map_append, List.map_cons]
    exact this
end Go.Proofs
namespace Go.Proofs
open Go.Vc
set_option maxRecDepth 100000
set_option maxHeartbeats 4000000
theorem set_get (h : Heap) (b : Nat) (o : Obj) : (h.set b o) b = some o := by simp [Heap.set]
theorem new' {h : Heap} {cs : List Value} {t : TypeId} {K : Nat → Heap → Prop} (cs' : List Value) (hcs : cs = cs') (hk : ∀ b h1, h b = none → h1 = h.set b (.cells cs'.toArray t) → h.le h1 → h1 b = some (.cells cs'.toArray t (0, 0)) → K b h1) : New h cs t K := by
  subst hcs
  exact new fun b hb => hk b _ hb rfl (Heap.le_set_free (Heap.le_refl h) hb) (set_get _ _ _)
def ResH (h0 h : Heap) (bs bm bf off : Nat) (u : Unt) (m : Mth) (fs : List Frm) (M : Mch) (B : List Nat) (r : Res) : Out → Heap → Prop := fun o h' => match o with
  | .ret _ => ∃ objs' f', r = .ok (objs', f') ∧ ∃ B', SpH h0 h' bs bm bf off u m fs f' { M with objs := objs', frames := fs ++ [f'] } B' ∧ Ev h h' (bm :: B) (bm :: B')
  | .pan c => ∃ k, r = .error k ∧ c = wrongP k ∧ Pn h0 bm h'
theorem mch_eta {M : Mch} {fs : List Frm} {f : Frm} (hf : M.frames = fs ++ [f]) : { M with objs := M.objs, frames := fs ++ [f] } = M := by rw [← hf]
theorem push_r {h0 h h1 : Heap} {bs bm bf off : Nat} {u : Unt} {m : Mth} {fs : List Frm} {f : Frm} {M : Mch} {B B1 : List Nat} (x : Vl) (hS : SpH h0 h bs bm bf off u m fs f M B) (ev : Ev h1 h (bm :: B1) (bm :: B)) :
    CallsH Tryz.prog 231 [.pointer (some ⟨bs, 0, none⟩), .agg #[.bool x.ref, .int .i64 x.n]] h (ResH h0 h1 bs bm bf off u m fs M B1 (pushS M.objs f x)) := by
  refine (push_c h0 h bs bm bf off u m fs f M B x hS).mono fun o h' hh => ?_
  cases o with
  | ret v =>
    obtain ⟨k1, B', k2, k3⟩ := hh
    exact ⟨M.objs, { f with stack := f.stack ++ [x] }, by simp [pushS, k1], B', k2, ev.trans k3⟩
  | pan c =>
    obtain ⟨k1, k2, k3⟩ := hh
    exact ⟨0, by simp [pushS]; omega, k2, k3⟩
theorem OwnC.two {h : Heap} {p : Option Addr} {n c : Nat} {l : List Vl} {B : List Nat} (ho : OwnV h (.slice p n c) l B) {i : Nat} (hi : i < l.length) : ∃ b, p = some ⟨b, 0, none⟩ ∧ rdn h b (0 + i * 2) 2 = some (vl2 l[i]) ∧ rd h b (0 + i * 2 + 1) = some (.int .i64 l[i].n) ∧ B = [b] ∧ n = l.length := by
  obtain ⟨_, _, he, _⟩ := ho.form
  simp only [Value.slice.injEq] at he
  obtain ⟨b, h1, h2, h3⟩ := ho.nth (i := i) (by simpa using hi)
  rw [List.getElem_map] at h2
  exact ⟨b, h1, h2, rdn_get h2 (i := 1) rfl, h3, by have := he.2.1; simpa using this⟩
theorem OwnC.all {h : Heap} {p : Option Addr} {n c : Nat} {l : List Vl} {B : List Nat} (ho : OwnV h (.slice p n c) l B) (hne : 0 < l.length) : ∃ b, p = some ⟨b, 0, none⟩ ∧ n = l.length ∧ ∀ i (hi : i < l.length), rdn h b (0 + i * 2) 2 = some (vl2 l[i]) ∧ rd h b (0 + i * 2 + 1) = some (.int .i64 l[i].n) := by
  obtain ⟨b, h1, _, _, hB, hn⟩ := ho.two hne
  refine ⟨b, h1, hn, fun i hi => ?_⟩
  obtain ⟨b', h1', h2', h3', _⟩ := ho.two hi
  rw [h1] at h1'
  simp only [Option.some.injEq, Addr.mk.injEq, and_true] at h1'
  subst h1'
  exact ⟨h2', h3'⟩
theorem SpH.at {h0 h : Heap} {bs bm bf off : Nat} {u : Unt} {m : Mth} {fs : List Frm} {f : Frm} {M : Mch} {B : List Nat} (hS : SpH h0 h bs bm bf off u m fs f M B) {n : Int} (h1 : 0 < n) (h2 : n ≤ M.objs.length) {bo c : Nat} (hr : rd h bm 0 = some (.slice (some ⟨bo, 0, none⟩) M.objs.length c)) :
    ∃ p k c' Bi, rd h bo (0 + (n - 1).toNat * 2 + 1) = some (.slice p k c') ∧ OwnV h (.slice p k c') (objN M.objs n).vals Bi ∧ k = (objN M.objs n).vals.length ∧
      ∀ h' vals', OwnV h' (.slice p k c') vals' Bi → (∀ b, b ∉ Bi → h b ≠ none → h' b = h b) → ∃ B', SpH h0 h' bs bm bf off u m fs f { M with objs := putOb M.objs n vals' } B' ∧ Ev h h' (bm :: B) (bm :: B') := by
  obtain ⟨bo', c', v, Bi, s1, s2, s3, ov, reb⟩ := hS.objAt h1 h2
  rw [hr] at s1
  simp only [Option.some.injEq, Value.slice.injEq, Addr.mk.injEq, and_true, true_and] at s1
  obtain ⟨rfl, rfl⟩ := s1
  obtain ⟨pv, cv, rfl, hcv⟩ := ov.form
  exact ⟨pv, _, cv, Bi, s3, ov, by simp, reb⟩
theorem objN_mem {l : List Ob} {n : Int} (h1 : 0 < n) (h2 : n ≤ l.length) : objN l n ∈ l := by
  have hi : (n - 1).toNat < l.length := by omega
  rw [objN_eq hi (by omega)]
  exact List.getElem_mem _
theorem up_pos {cs : List Cls} {a b : Int} (h : up cs a b = true) : 0 ≤ a := by
  rcases Int.lt_or_le a 0 with h0 | h0
  · rw [up_neg h0] at h; cases h
  · exact h0
theorem getD_of {l : List Vl} {i : Nat} (hi : i < l.length) : l.getD i noVl = l[i] := by simp [hi]
theorem doThings_c (h0 h : Heap) (bs bm bf off : Nat) (u : Unt) (m : Mth) (fs : List Frm) (f : Frm) (M : Mch) (B : List Nat) (x : Ins) (took : List Vl) (vt : Value) (Bt : List Nat) (hS : SpH h0 h bs bm bf off u m fs f M B)
    (ot : OwnV h vt took Bt) (hbt : ∀ b ∈ Bt, b ∉ bm :: B ∧ b ≠ bs) (ok : CsOk u.classes) (hk : 12 ≤ x.kind ∧ x.kind ≤ 19) (hl : M.objs.length ≤ 900) (hob : ObsOk u M.objs) (ht : TookT u x took M.objs.length)
    (hcl : x.kind = 12 ∨ x.kind = 17 ∨ x.kind = 18 ∨ x.kind = 19 → 0 ≤ x.a ∧ x.a < u.classes.length) (har : x.kind = 13 → x.a = 0 ∨ x.a = 1) (hfl : x.kind = 17 ∨ x.kind = 18 → 0 ≤ x.b ∧ x.b < (flds u.classes x.a).length) :
    CallsH Tryz.prog 233 [.pointer (some ⟨bs, 0, none⟩), .agg #[.int .i64 x.kind, .int .i64 x.a, .int .i64 x.b], vt] h (ResH h0 h bs bm bf off u m fs M B (thingsS u x took M.objs f)) := by
  obtain ⟨kind, a, b⟩ := x
  simp only at hk hcl har hfl ⊢
  obtain ⟨t13, t14, t15, t16, t17, t18, t19, tr⟩ := ht
  simp only at t13 t14 t15 t16 t17 t18 t19
  obtain ⟨pt, ct, rfl, _⟩ := ot.form
  have hS0 := hS
  obtain ⟨r1, r2, _, p, cc, q, d, hu, r9, r10, r9n, _⟩ := hS.mp
  have hu1 := hu.le hS.ma.le
  have hcs : ClsS h (.slice p u.classes.length cc) u.classes := by
    obtain ⟨p', c', q', d', he, hcs, _⟩ := hu1.form
    simp only [List.cons.injEq, Value.slice.injEq, true_and, and_true] at he
    obtain ⟨⟨rfl, rfl⟩, _⟩ := he
    exact hcs
  have evr := Ev.refl h (bm :: B)
  have hk' : kind = 12 ∨ kind = 13 ∨ kind = 14 ∨ kind = 15 ∨ kind = 16 ∨ kind = 17 ∨ kind = 18 ∨ kind = 19 := by omega
  rcases hk' with rfl | rfl | rfl | rfl | rfl | rfl | rfl | rfl
  ·
    have hc := hcl (.inl rfl)
    refine outs Tryz.sigOk Tryz.func233 Tryz.F233 Tryz.ok233 rfl ?_
    conv => whnf
    repeat' ((first | refine ld r9 ?_ | refine ob (by omega) ?_ | refine ar_in (by omega) (by omega) ?_ | refine ptr ?_) <;> conv => whnf)
    refine callX_r (classFields_c _ _ _ _ _ _ _ hcs ok hc.1 hc.2 (Nat.lt_succ_self _)) ?_
    rintro v h1 ⟨l1, Bc, oc, nc⟩
    refine ⟨l1, ?_⟩
    conv => whnf
    refine call_o (addOb_c h0 h1 bs bm bf off u m fs f M B a (flds u.classes a) v Bc (hS.mono l1) oc (by have := flds_len' ok hc.2; omega) (by omega)) ?_ ?_
    · rintro v h' ⟨k1, B', k2, k3⟩
      conv => whnf
      refine ⟨_, _, by simp [thingsS, addS, pushS, k1] <;> exact ⟨rfl, rfl⟩, B', k2, (Ev.of_le l1 (bm :: B) (fun b hb => .inl hb)).trans k3⟩
    · rintro c h' ⟨k1, k2, k3⟩
      exact ⟨0, by simp [thingsS, addS, pushS]; omega, k2, k3⟩
  ·
    obtain ⟨v0, rfl⟩ := t13 rfl
    have hi0 : 0 < [v0].length := by simp
    obtain ⟨b0, hq0, n0, q0, _, _⟩ := ot.two hi0
    simp only [List.getElem_cons_zero] at n0 q0
    have ha := har rfl
    refine outs Tryz.sigOk Tryz.func233 Tryz.F233 Tryz.ok233 rfl ?_
    conv => whnf
    repeat' ((first | refine ptr' hq0 ?_ | refine ld q0 ?_ | refine ob (by omega) ?_ | refine ar_in (by omega) (by omega) ?_ | refine ptr ?_) <;> conv => whnf)
    refine call_p (within_c _ _ _ _) ?_
    conv => whnf
    refine selNP (fun g => ?_) (fun g => ?_)
    all_goals conv => whnf
    · exact ⟨4, by simp only [thingsS]; simp; omega, rfl, hS.ma.pn⟩
    have hth : thingsS u ⟨13, a, b⟩ [v0] M.objs f = addS (arrC a) (List.replicate v0.n.toNat (if a = 0 then 1 else 8)) M.objs f := by
      simp [thingsS, g.1, g.2]
    repeat' ((first | exact trivial | refine And.intro ?_ ?_ | refine ptr' hq0 ?_ | refine ld q0 ?_ | refine callX_p (arrayClass_c _ _) ?_ | refine callX_p (elemType_c _ _) ?_ | refine ob (by omega) ?_ | refine ar_in (by omega) (by omega) ?_ | refine ptr ?_) <;> conv => whnf)
    all_goals refine new' [Value.int .i64 (if a = 0 then 1 else 8)] rfl (fun b h1 hb hh l1 hg => ?_)
    all_goals
      have hrd : ReadI h1 (.slice (some ⟨b, 0, none⟩) 1 1) [if a = 0 then 1 else 8] :=
        ⟨by simp, by simp [int1], _, 1, rfl, by simp, .inr ⟨b, 0, rfl, (rdn_cells hg 1 0 (by simp)).trans rfl⟩⟩
      conv => whnf
      have q0' := rd_le l1 q0
      repeat' ((first | refine ptr' hq0 ?_ | refine ld q0' ?_ | refine callX_p (arrayClass_c _ _) ?_ | refine callX_p (elemType_c _ _) ?_ | refine ob (by omega) ?_ | refine ar_in (by omega) (by omega) ?_ | refine ptr ?_) <;> conv => whnf)
      refine callX_r (repeat_c _ v0.n _ h1 hrd (by omega)) ?_
      rintro v h2 ⟨l2, Bc, oc, nc⟩
      refine ⟨l2, ?_⟩
      conv => whnf
      have l12 := Heap.le_trans l1 l2
      refine call_o (addOb_c h0 h2 bs bm bf off u m fs f M B (arrC a) _ v Bc (hS.mono l12) oc (by simp; omega) (by omega)) ?_ ?_
      · rintro v h' ⟨k1, B', k2, k3⟩
        conv => whnf
        refine ⟨_, { f with stack := f.stack ++ [⟨true, M.objs.length + 1⟩] }, ?_, B', k2, (Ev.of_le l12 (bm :: B) (fun b hb => .inl hb)).trans k3⟩
        rw [hth, addS, pushS, if_pos k1]
      · rintro c h' ⟨k1, k2, k3⟩
        refine ⟨0, ?_, k2, k3⟩
        rw [hth, addS, pushS, if_neg (by omega)]
  ·
    obtain ⟨v0, rfl, hr0⟩ := t14 rfl
    have hi0 : 0 < [v0].length := by simp
    obtain ⟨b0, hq0, n0, q0, _, _⟩ := ot.two hi0
    simp only [List.getElem_cons_zero] at n0 q0
    have hv0 := tr v0 (by simp) hr0
    refine outs Tryz.sigOk Tryz.func233 Tryz.F233 Tryz.ok233 rfl ?_
    conv => whnf
    repeat' ((first | refine ptr' hq0 ?_ | refine ldn n0 ?_ | refine ob (by omega) ?_ | refine ar_in (by omega) (by omega) ?_ | refine ptr ?_) <;> conv => whnf)
    refine call_o (thing_c h0 h bs bm bf off u m fs f M B v0 _ _ (fun c => decide (c < 0)) hS (.inr (.inr ⟨rfl, rfl⟩)) hv0 (by omega) (fun _ => doThings1_c h _)) ?_ ?_
    · rintro v h' ⟨rfl, e1, e2, bo, c, e3, rfl⟩
      have hob := hS.objAt e1 hv0.2
      obtain ⟨bo', c', v, Bi, s1, s2, s3, ov, _⟩ := hob
      rw [e3] at s1
      simp only [Option.some.injEq, Value.slice.injEq, Addr.mk.injEq, and_true, true_and] at s1
      obtain ⟨rfl, rfl⟩ := s1
      obtain ⟨pv, cv, rfl, hcv⟩ := ov.form
      conv => whnf
      repeat' ((first | refine ld s3 ?_ | refine ob (by omega) ?_ | refine ar_in (by omega) (by omega) ?_ | refine ptr ?_) <;> conv => whnf)
      have hth : thingsS u ⟨14, a, b⟩ [v0] M.objs f = pushS M.objs f ⟨false, (((objN M.objs v0.n).vals.map vl2).length : Int)⟩ := by
        simp only [thingsS, List.getD_cons_zero, thingS, e2]; simp
        rw [if_neg (by omega)]
      rw [hth]
      refine call_o (push_r ⟨false, (((objN M.objs v0.n).vals.map vl2).length : Int)⟩ hS evr) ?_ ?_
      · rintro v h' hh
        conv => whnf
        exact hh
      · rintro c h' hh
        exact hh
    · rintro c h' ⟨rfl, e1⟩
      rcases e1 with ⟨e1, e2, e3⟩ | ⟨e1, e3⟩
      · exact ⟨0, by simp only [thingsS, List.getD_cons_zero, thingS, e2]; simp [e1], e3, hS.ma.pn⟩
      · exact ⟨2, by simp only [thingsS, List.getD_cons_zero, thingS]; simp [e1], e3, hS.ma.pn⟩
  ·
    obtain ⟨v0, v1, rfl, hr0⟩ := t15 rfl
    obtain ⟨b0, hq0, _, hall⟩ := ot.all (by simp)
    have n0 := (hall 0 (by simp)).1
    have q1 := (hall 1 (by simp)).2
    simp only [List.getElem_cons_zero, List.getElem_cons_succ] at n0 q1
    have hv0 := tr v0 (by simp) hr0
    have hlen2 : (List.map vl2 [v0, v1]).length = 2 := rfl
    have hth : thingsS u ⟨15, a, b⟩ [v0, v1] M.objs f = (match arrS M.objs v0 a v1.n with
      | .error e => .error e
      | .ok o => pushS M.objs f (o.vals.getD v1.n.toNat noVl)) := rfl
    rw [hth]
    refine outs Tryz.sigOk Tryz.func233 Tryz.F233 Tryz.ok233 rfl ?_
    conv => whnf
    repeat' ((first | exact trivial | refine And.intro ?_ ?_ | refine ptr' hq0 ?_ | refine ld q1 ?_ | refine ldn n0 ?_ | refine ob (by omega) ?_ | refine ar_in (by omega) (by omega) ?_ | refine ptr ?_) <;> conv => whnf)
    all_goals
      refine callX_o (inArray_c h0 h bs bm bf off u m fs f M B v0 a v1.n hS hv0 (by omega)) ?_ ?_
      · rintro v h1 ⟨l1, e1, e2, e3, e4, bo, c, bv, cv, nv, s1, s2, rfl⟩
        refine ⟨l1, ?_⟩
        have hS1 := hS.mono l1
        have hat := hS1.at e1 hv0.2 s1
        obtain ⟨p1, k1, c1, Bi, w1, ov, rfl, _⟩ := hat
        rw [s2] at w1
        simp only [Option.some.injEq, Value.slice.injEq] at w1
        obtain ⟨rfl, rfl, rfl⟩ := w1
        have hi : v1.n.toNat < (objN M.objs v0.n).vals.length := by omega
        have hall2 := ov.all (by omega)
        obtain ⟨bv', hqv, _, hall2⟩ := hall2
        simp only [Option.some.injEq, Addr.mk.injEq, and_true] at hqv
        subst hqv
        have n1 := (hall2 _ hi).1
        rw [arrS_ok e1 e2 ⟨e3, e4⟩]
        simp only [getD_of hi]
        conv => whnf
        repeat' ((first | refine ptr' hq0 ?_ | refine ld (rd_le l1 q1) ?_ | refine ldn n1 ?_ | refine ob (by omega) ?_ | refine ar_in (by omega) (by omega) ?_ | refine ptr ?_) <;> conv => whnf)
        refine call_o (push_r (objN M.objs v0.n).vals[v1.n.toNat] hS1 (Ev.of_le l1 (bm :: B) (fun b hb => .inl hb))) ?_ ?_
        · rintro v h' hh
          conv => whnf
          exact hh
        · rintro c h' hh
          exact hh
      · rintro c h1 ⟨l1, e1⟩
        have hle1 := hS.ma.pn' l1
        rcases e1 with ⟨e1, e2, e3⟩ | ⟨e1, e3⟩ | ⟨e1, e2, e3, e4⟩
        · exact ⟨0, by rw [arrS_bad e1 e2], e3, hle1⟩
        · exact ⟨2, by rw [arrS_nil e1], e3, hle1⟩
        · exact ⟨3, by rw [arrS_place e1 e2 e3], e4, hle1⟩
  ·
    obtain ⟨v0, v1, v2, rfl, hr0⟩ := t16 rfl
    obtain ⟨b0, hq0, _, hall⟩ := ot.all (by simp)
    have n0 := (hall 0 (by simp)).1
    have q1 := (hall 1 (by simp)).2
    have n2 := (hall 2 (by simp)).1
    simp only [List.getElem_cons_zero, List.getElem_cons_succ] at n0 q1 n2
    have hv0 := tr v0 (by simp) hr0
    have hlen2 : (List.map vl2 [v0, v1, v2]).length = 3 := rfl
    have hth : thingsS u ⟨16, a, b⟩ [v0, v1, v2] M.objs f = (match arrS M.objs v0 a v1.n with
      | .error e => .error e
      | .ok o => .ok (putOb M.objs v0.n (putAt o.vals v1.n v2), f)) := rfl
    rw [hth]
    refine outs Tryz.sigOk Tryz.func233 Tryz.F233 Tryz.ok233 rfl ?_
    conv => whnf
    repeat' ((first | exact trivial | refine And.intro ?_ ?_ | refine ptr' hq0 ?_ | refine ld q1 ?_ | refine ldn n0 ?_ | refine ldn n2 ?_ | refine ob (by omega) ?_ | refine ar_in (by omega) (by omega) ?_ | refine ptr ?_) <;> conv => whnf)
    all_goals
      refine callX_o (inArray_c h0 h bs bm bf off u m fs f M B v0 a v1.n hS hv0 (by omega)) ?_ ?_
      · rintro v h1 ⟨l1, e1, e2, e3, e4, bo, c, bv, cv, nv, s1, s2, rfl⟩
        refine ⟨l1, ?_⟩
        have hS1 := hS.mono l1
        have hat := hS1.at e1 hv0.2 s1
        obtain ⟨p1, k1, c1, Bi, w1, ov, rfl, reb⟩ := hat
        rw [s2] at w1
        simp only [Option.some.injEq, Value.slice.injEq] at w1
        obtain ⟨rfl, rfl, rfl⟩ := w1
        have hi : v1.n.toNat < (objN M.objs v0.n).vals.length := by omega
        have hput := OwnC.put ov hi
        obtain ⟨bv', pre, xx, post, tt, hqv, _, hbv, hpl, hxx, rfl, rebv⟩ := hput
        simp only [Option.some.injEq, Addr.mk.injEq, and_true] at hqv
        subst hqv
        rw [arrS_ok e1 e2 ⟨e3, e4⟩]
        conv => whnf
        repeat' ((first | refine ptr' hq0 ?_ | refine ldn (rdn_le' l1 n2) ?_ | refine ob (by omega) ?_ | refine ar_in (by omega) (by omega) ?_ | refine ptr ?_) <;> conv => whnf)
        refine st hbv (by simp [hxx, vl2, hpl] <;> omega) ?_
        have hw : wrls (pre ++ xx ++ post) (0 + v1.n.toNat * 2) [.bool v2.ref, .int .i64 v2.n] = pre ++ vl2 v2 ++ post := wr_all (by omega) (by rw [hxx]; rfl)
        have hset := reb (h1.set bv (.cells (pre ++ vl2 v2 ++ post).toArray tt (0, 0))) _ (rebv _ v2 (set_get _ _ _)) (fun b hb _ => by simp only [Heap.set]; rw [if_neg (by simpa using hb)])
        obtain ⟨B', k1, k2⟩ := hset
        rw [show wrls (pre ++ xx ++ post) _ _ = pre ++ vl2 v2 ++ post from hw]
        conv => whnf
        refine ⟨_, _, rfl, B', ?_, (Ev.of_le l1 (bm :: B) (fun b hb => .inl hb)).trans k2⟩
        have := k1.frames
        simp only at this
        rw [← hS.frames]
        exact k1
      · rintro c h1 ⟨l1, e1⟩
        have hle1 := hS.ma.pn' l1
        rcases e1 with ⟨e1, e2, e3⟩ | ⟨e1, e3⟩ | ⟨e1, e2, e3, e4⟩
        · exact ⟨0, by rw [arrS_bad e1 e2], e3, hle1⟩
        · exact ⟨2, by rw [arrS_nil e1], e3, hle1⟩
        · exact ⟨3, by rw [arrS_place e1 e2 e3], e4, hle1⟩
  ·
    obtain ⟨v0, rfl, hr0⟩ := t17 rfl
    obtain ⟨b0, hq0, _, hall⟩ := ot.all (by simp)
    have n0 := (hall 0 (by simp)).1
    simp only [List.getElem_cons_zero] at n0
    have hv0 := tr v0 (by simp) hr0
    have hlen2 : (List.map vl2 [v0]).length = 1 := rfl
    have hc := hcl (.inr (.inl rfl))
    have hb := hfl (.inl rfl)
    have hth : thingsS u ⟨17, a, b⟩ [v0] M.objs f = (match thingS M.objs v0.n (up u.classes (objN M.objs v0.n).cls a) with
      | .error e => .error e
      | .ok o => pushS M.objs f (o.vals.getD b.toNat noVl)) := rfl
    rw [hth]
    refine outs Tryz.sigOk Tryz.func233 Tryz.F233 Tryz.ok233 rfl ?_
    conv => whnf
    repeat' ((first | exact trivial | refine And.intro ?_ ?_ | refine ptr' hq0 ?_ | refine ldn n0 ?_ | refine ob (by omega) ?_ | refine ar_in (by omega) (by omega) ?_ | refine ptr ?_) <;> conv => whnf)
    all_goals
      refine callX_o (ofClass_c h0 h bs bm bf off u m fs f M B v0 a hS ok hv0 (by omega) (fun hp => (hob _ (objN_mem hp hv0.2)).1.2)) ?_ ?_
      · rintro v h1 ⟨l1, e1, e2, bo, c, s1, rfl⟩
        refine ⟨l1, ?_⟩
        have hS1 := hS.mono l1
        have hat := hS1.at e1 hv0.2 s1
        obtain ⟨p1, k1, c1, Bi, w1, ov, rfl, _⟩ := hat
        have hof := hob _ (objN_mem e1 hv0.2)
        have h0c := up_pos e2
        have hle := flds_up ok _ (Nat.lt_succ_self _) hof.1.2 e2
        have hvl := hof.2 h0c
        have hi : b.toNat < (objN M.objs v0.n).vals.length := by omega
        have hall2 := ov.all (by omega)
        obtain ⟨bv, hqv, _, hall2⟩ := hall2
        have n1 := (hall2 _ hi).1
        rw [thingS_ok e1 e2]
        simp only [getD_of hi]
        conv => whnf
        repeat' ((first | exact trivial | refine And.intro ?_ ?_ | refine ld w1 ?_ | refine ptr' hqv ?_ | refine ldn n1 ?_ | refine ob (by omega) ?_ | refine ar_in (by omega) (by omega) ?_ | refine ptr ?_) <;> conv => whnf)
        all_goals
          refine call_o (push_r (objN M.objs v0.n).vals[b.toNat] hS1 (Ev.of_le l1 (bm :: B) (fun b hb => .inl hb))) ?_ ?_
          · rintro v h' hh
            conv => whnf
            exact hh
          · rintro c h' hh
            exact hh
      · rintro c h1 ⟨l1, e1⟩
        have hle1 := hS.ma.pn' l1
        rcases e1 with ⟨e1, e2, e3⟩ | ⟨e1, e3⟩
        · exact ⟨0, by rw [thingS_bad e1 e2], e3, hle1⟩
        · exact ⟨2, by rw [thingS_nil e1], e3, hle1⟩
  ·
    obtain ⟨v0, v1, rfl, hr0⟩ := t18 rfl
    obtain ⟨b0, hq0, _, hall⟩ := ot.all (by simp)
    have n0 := (hall 0 (by simp)).1
    have n1 := (hall 1 (by simp)).1
    simp only [List.getElem_cons_zero, List.getElem_cons_succ] at n0 n1
    have hv0 := tr v0 (by simp) hr0
    have hlen2 : (List.map vl2 [v0, v1]).length = 2 := rfl
    have hc := hcl (.inr (.inr (.inl rfl)))
    have hb := hfl (.inr rfl)
    have hth : thingsS u ⟨18, a, b⟩ [v0, v1] M.objs f = (match thingS M.objs v0.n (up u.classes (objN M.objs v0.n).cls a) with
      | .error e => .error e
      | .ok o => .ok (putOb M.objs v0.n (putAt o.vals b v1), f)) := rfl
    rw [hth]
    refine outs Tryz.sigOk Tryz.func233 Tryz.F233 Tryz.ok233 rfl ?_
    conv => whnf
    repeat' ((first | exact trivial | refine And.intro ?_ ?_ | refine ptr' hq0 ?_ | refine ldn n0 ?_ | refine ldn n1 ?_ | refine ob (by omega) ?_ | refine ar_in (by omega) (by omega) ?_ | refine ptr ?_) <;> conv => whnf)
    all_goals
      refine callX_o (ofClass_c h0 h bs bm bf off u m fs f M B v0 a hS ok hv0 (by omega) (fun hp => (hob _ (objN_mem hp hv0.2)).1.2)) ?_ ?_
      · rintro v h1 ⟨l1, e1, e2, bo, c, s1, rfl⟩
        refine ⟨l1, ?_⟩
        have hS1 := hS.mono l1
        have hat := hS1.at e1 hv0.2 s1
        obtain ⟨p1, k1, c1, Bi, w1, ov, rfl, reb⟩ := hat
        have hof := hob _ (objN_mem e1 hv0.2)
        have h0c := up_pos e2
        have hle := flds_up ok _ (Nat.lt_succ_self _) hof.1.2 e2
        have hvl := hof.2 h0c
        have hi : b.toNat < (objN M.objs v0.n).vals.length := by omega
        have hput := OwnC.put ov hi
        obtain ⟨bv, pre, xx, post, tt, hqv, _, hbv, hpl, hxx, rfl, rebv⟩ := hput
        rw [thingS_ok e1 e2]
        conv => whnf
        repeat' ((first | exact trivial | refine And.intro ?_ ?_ | refine ld w1 ?_ | refine ptr' hqv ?_ | refine ptr' hq0 ?_ | refine ldn (rdn_le' l1 n1) ?_ | refine ob (by omega) ?_ | refine ar_in (by omega) (by omega) ?_ | refine ptr ?_) <;> conv => whnf)
        all_goals
          refine st hbv (by simp [hxx, vl2, hpl] <;> omega) ?_
          have hw : wrls (pre ++ xx ++ post) (0 + b.toNat * 2) [.bool v1.ref, .int .i64 v1.n] = pre ++ vl2 v1 ++ post := wr_all (by omega) (by rw [hxx]; rfl)
          have hset := reb (h1.set bv (.cells (pre ++ vl2 v1 ++ post).toArray tt (0, 0))) _ (rebv _ v1 (set_get _ _ _)) (fun b hb _ => by simp only [Heap.set]; rw [if_neg (by simpa using hb)])
          obtain ⟨B', k1, k2⟩ := hset
          rw [show wrls (pre ++ xx ++ post) _ _ = pre ++ vl2 v1 ++ post from hw]
          conv => whnf
          refine ⟨_, _, rfl, B', ?_, (Ev.of_le l1 (bm :: B) (fun b hb => .inl hb)).trans k2⟩
          rw [← hS.frames]
          exact k1
      · rintro c h1 ⟨l1, e1⟩
        have hle1 := hS.ma.pn' l1
        rcases e1 with ⟨e1, e2, e3⟩ | ⟨e1, e3⟩
        · exact ⟨0, by rw [thingS_bad e1 e2], e3, hle1⟩
        · exact ⟨2, by rw [thingS_nil e1], e3, hle1⟩
  ·
    obtain ⟨v0, rfl, hr0⟩ := t19 rfl
    obtain ⟨b0, hq0, _, hall⟩ := ot.all (by simp)
    have n0 := (hall 0 (by simp)).1
    simp only [List.getElem_cons_zero] at n0
    have hv0 := tr v0 (by simp) hr0
    have hlen2 : (List.map vl2 [v0]).length = 1 := rfl
    have hc := hcl (.inr (.inr (.inr rfl)))
    have hth : thingsS u ⟨19, a, b⟩ [v0] M.objs f = (if 0 < v0.n ∧ tyIn u.classes (typeOf (objN M.objs v0.n).cls) (8 + a) = false then .error 5 else pushS M.objs f v0) := rfl
    rw [hth]
    refine outs Tryz.sigOk Tryz.func233 Tryz.F233 Tryz.ok233 rfl ?_
    conv => whnf
    repeat' ((first | refine ptr' hq0 ?_ | refine ldn n0 ?_ | refine ob (by omega) ?_ | refine ar_in (by omega) (by omega) ?_ | refine ptr ?_) <;> conv => whnf)
    have fin : ∀ {K : Value → Heap → Prop} {E : List PanicEntry → Heap → Prop}, (∀ v h', ResH h0 h bs bm bf off u m fs M B (pushS M.objs f v0) (.ret v) h' → K v h') → (∀ c h', ResH h0 h bs bm bf off u m fs M B (pushS M.objs f v0) (.pan c) h' → E c h') → Vc.Call Tryz.prog 231 [.pointer (some ⟨bs, 0, none⟩), .agg #[.bool v0.ref, .int .i64 v0.n]] h K E := fun k1 k2 => call_o (push_r v0 hS evr) k1 k2
    by_cases hpos : 0 < v0.n
    · have hat := hS.objAt hpos hv0.2
      obtain ⟨bo, c, v, Bi, s1, s2, s3, _, _⟩ := hat
      have hof := hob _ (objN_mem hpos hv0.2)
      have hl5 := ok.2.1
      have hty : isTy u.classes.length (typeOf (objN M.objs v0.n).cls) := by unfold isTy typeOf; repeat' split <;> omega
      have hty2 : isTy u.classes.length (8 + a) := by unfold isTy; omega
      refine selPt hpos ?_
      conv => whnf
      rw [hr0]
      repeat' ((first | refine ld r9 ?_ | refine ld r2 ?_ | refine ld s1 ?_ | refine ob (by omega) ?_ | refine ar_in (by omega) (by omega) ?_ | refine ptr ?_) <;> conv => whnf)
      refine callX_p (valType_c h bo _ c v0.n _ s2 ⟨hpos, hv0.2⟩ (by omega) (by omega)) ?_
      conv => whnf
      repeat' ((first | refine callX_p (typeIn_c _ _ _ _ _ _ h hcs ok hty hty2) ?_ | refine ob (by omega) ?_ | refine ar_in (by omega) (by omega) ?_ | refine ptr ?_) <;> conv => whnf)
      refine selNB (fun k => ?_) (fun k => ?_)
      all_goals conv => whnf
      · exact ⟨5, by rw [if_pos ⟨hpos, k⟩], rfl, hS.ma.pn⟩
      · rw [if_neg (by rw [k]; simp)]
        rw [hr0] at fin
        refine fin ?_ ?_
        · rintro v h' hh
          conv => whnf
          exact hh
        · rintro c h' hh
          exact hh
    · refine selPf hpos ?_
      conv => whnf
      rw [if_neg (fun hx => hpos hx.1)]
      refine fin ?_ ?_
      · rintro v h' hh
        conv => whnf
        exact hh
      · rintro c h' hh
        exact hh
end Go.Proofs
