/- Part 8 of the lemmas on which the law rests: what functions of the program and of the reference do; no conditions but those that each lemma states. -/
import Derived.Test.YtcaoejkpbmiklaaGreatChecked
import Derived.ChangeSlices
import Derived.OpenShut
import Derived.SizedLaws
import Derived.Test.YtcaoejkpbmiklaaGreatMg7
namespace Go.Proofs
open Go.Vc
set_option maxRecDepth 100000
set_option maxHeartbeats 4000000
theorem szIntS_c (v : Value) (l : List Int) (h : Heap) (hr : Ints h v l) (left : Int) (hl : 0 ≤ left ∧ left ≤ 1048576) : Rets Tryz.prog 162 [v, .int .i64 left] h (SzR left (T20 l.length) h) := by
  obtain ⟨p, c, rfl, hc, hn⟩ := hr.len
  refine rets Tryz.sigOk Tryz.func162 Tryz.F162 Tryz.ok162 rfl ?_
  conv => whnf
  refine ar_in (by omega) (by omega) ?_
  conv => whnf
  refine selP (fun g => ?_) (fun g => ?_)
  all_goals conv => whnf
  · exact ⟨rfl, _, rfl, .inl rfl⟩
  · exact ⟨rfl, _, rfl, .inr ⟨by omega, by omega, by unfold T20; omega⟩⟩
theorem szInsS_c (v : Value) (l : List Ins) (h : Heap) (hr : Row 3 InsR h v l) (left : Int) (hl : 0 ≤ left ∧ left ≤ 1048576) : Rets Tryz.prog 163 [v, .int .i64 left] h (SzR left (T20 l.length) h) := by
  obtain ⟨p, c, rfl, hc, hn⟩ := hr.len
  refine rets Tryz.sigOk Tryz.func163 Tryz.F163 Tryz.ok163 rfl ?_
  conv => whnf
  refine ar_in (by omega) (by omega) ?_
  conv => whnf
  refine selP (fun g => ?_) (fun g => ?_)
  all_goals conv => whnf
  · exact ⟨rfl, _, rfl, .inl rfl⟩
  · exact ⟨rfl, _, rfl, .inr ⟨by omega, by omega, by unfold T20; omega⟩⟩
theorem szCatchS_c (v : Value) (l : List Ctc) (h : Heap) (hr : Row 4 CtcR h v l) (left : Int) (hl : 0 ≤ left ∧ left ≤ 1048576) : Rets Tryz.prog 165 [v, .int .i64 left] h (SzR left (T20 l.length) h) := by
  obtain ⟨p, c, rfl, hc, hn⟩ := hr.len
  refine rets Tryz.sigOk Tryz.func165 Tryz.F165 Tryz.ok165 rfl ?_
  conv => whnf
  refine ar_in (by omega) (by omega) ?_
  conv => whnf
  refine selP (fun g => ?_) (fun g => ?_)
  all_goals conv => whnf
  · exact ⟨rfl, _, rfl, .inl rfl⟩
  · exact ⟨rfl, _, rfl, .inr ⟨by omega, by omega, by unfold T20; omega⟩⟩
theorem szClass_c (x : List Value) (a : Cls) (h : Heap) (hr : ClsR h x a) (left : Int) (hl : 0 ≤ left ∧ left ≤ 1048576) : Rets Tryz.prog 95 [.agg ⟨x⟩, .int .i64 left] h (SzR left (TinyC a) h) := by
  obtain ⟨y1, rfl, _, h1⟩ := hr
  have f := h1.len
  obtain ⟨_, _, rfl, _, _⟩ := f
  refine rets Tryz.sigOk Tryz.func95 Tryz.F95 Tryz.ok95 rfl ?_
  conv => whnf
  refine call_r (szIntS_c _ _ h h1 left ⟨by omega, by omega⟩) ?_
  rintro v0 h0 ⟨rfl, r0, rfl, q0⟩
  conv => whnf
  refine selP (fun g => ?_) (fun g => ?_)
  all_goals conv => whnf
  · exact ⟨rfl, _, rfl, .inl rfl⟩
  obtain ⟨a0, b0, t0⟩ := q0.resolve_left (by omega)
  exact ⟨rfl, _, rfl, .inr ⟨by omega, by omega, t0⟩⟩
theorem szShape_c (x : List Value) (a : Shp) (h : Heap) (hr : ShpR h x a) (left : Int) (hl : 0 ≤ left ∧ left ≤ 1048576) : Rets Tryz.prog 215 [.agg ⟨x⟩, .int .i64 left] h (SzR left (TinyS a) h) := by
  obtain ⟨y1, y2, rfl, h1, h2⟩ := hr
  have f := h1.len
  obtain ⟨_, _, rfl, _, _⟩ := f
  have f := h2.len
  obtain ⟨_, _, rfl, _, _⟩ := f
  refine rets Tryz.sigOk Tryz.func215 Tryz.F215 Tryz.ok215 rfl ?_
  conv => whnf
  refine call_r (szIntS_c _ _ h h1 left ⟨by omega, by omega⟩) ?_
  rintro v0 h0 ⟨rfl, r0, rfl, q0⟩
  conv => whnf
  refine selP (fun g => ?_) (fun g => ?_)
  all_goals conv => whnf
  · exact ⟨rfl, _, rfl, .inl rfl⟩
  obtain ⟨a0, b0, t0⟩ := q0.resolve_left (by omega)
  refine call_r (szIntS_c _ _ h h2 r0 ⟨by omega, by omega⟩) ?_
  rintro v1 h1 ⟨rfl, r1, rfl, q1⟩
  conv => whnf
  refine selP (fun g => ?_) (fun g => ?_)
  all_goals conv => whnf
  · exact ⟨rfl, _, rfl, .inl rfl⟩
  obtain ⟨a1, b1, t1⟩ := q1.resolve_left (by omega)
  exact ⟨rfl, _, rfl, .inr ⟨by omega, by omega, ⟨t0, t1⟩⟩⟩
theorem szClassS_c (v : Value) (l : List Cls) (h : Heap) (hr : Row 2 ClsR h v l) (left : Int) (hl : 0 ≤ left ∧ left ≤ 1048576) : Rets Tryz.prog 39 [v, .int .i64 left] h (SzR left (T20 l.length ∧ ∀ a ∈ l, TinyC a) h) := by
  have f := hr.len
  obtain ⟨p, c, rfl, hc, hn⟩ := f
  refine rets Tryz.sigOk Tryz.func39 Tryz.F39 Tryz.ok39 rfl ?_
  conv => whnf
  refine ar_in (by omega) (by omega) ?_
  conv => whnf
  refine selP (fun g => ?_) (fun g => ?_)
  all_goals conv => whnf
  · exact ⟨rfl, _, rfl, .inl rfl⟩
  refine lps [0, 1, 5] [] (fun s : Nat × Int => s.1 ≤ l.length ∧ 0 ≤ s.2 ∧ s.2 ≤ left ∧ ∀ a ∈ l.take s.1, TinyC a) (fun s => l.length - s.1)
    (fun s => ([.v (.slice p l.length c), .v (.int .i64 s.2), .v (.int .i64 s.1)], [], h)) (0, left - l.length) ⟨by omega, by simp only; omega, by simp only; omega, by simp⟩ rfl ?_
  rintro ⟨i, k⟩ ⟨hi, k0, k1, hT⟩
  simp only at hi k0 k1 hT ⊢
  conv => whnf
  refine selP (fun g2 => ?_) (fun g2 => ?_)
  all_goals conv => whnf
  · have hil : i < l.length := by omega
    have e := hr.get hil
    obtain ⟨b, off, vs, hq, e1, e2⟩ := e
    have e2' := e2
    obtain ⟨_, rfl, _⟩ := e2'
    refine ob (by omega) ?_
    conv => whnf
    refine ptr' hq ?_
    conv => whnf
    refine ldn e1 ?_
    conv => whnf
    refine call_r (szClass_c _ _ h e2 k ⟨k0, by omega⟩) ?_
    rintro v' h' ⟨rfl, r, rfl, hr'⟩
    conv => whnf
    refine selP (fun g3 => ?_) (fun g3 => ?_)
    all_goals conv => whnf
    · exact ⟨rfl, _, rfl, .inl rfl⟩
    · obtain ⟨q0, q1, q2⟩ := hr'.resolve_left (by omega)
      refine ar_in (by omega) (by omega) ?_
      conv => whnf
      exact lpn (i + 1, r) ⟨by simp only; omega, q0, by simp only; omega, take_all hT hil q2⟩ (by simp only; omega) rfl
  · exact ⟨rfl, _, rfl, .inr ⟨k0, k1, by unfold T20; omega, by rw [List.take_of_length_le (by omega)] at hT; exact hT⟩⟩
theorem szShapeS_c (v : Value) (l : List Shp) (h : Heap) (hr : Row 3 ShpR h v l) (left : Int) (hl : 0 ≤ left ∧ left ≤ 1048576) : Rets Tryz.prog 164 [v, .int .i64 left] h (SzR left (T20 l.length ∧ ∀ a ∈ l, TinyS a) h) := by
  have f := hr.len
  obtain ⟨p, c, rfl, hc, hn⟩ := f
  refine rets Tryz.sigOk Tryz.func164 Tryz.F164 Tryz.ok164 rfl ?_
  conv => whnf
  refine ar_in (by omega) (by omega) ?_
  conv => whnf
  refine selP (fun g => ?_) (fun g => ?_)
  all_goals conv => whnf
  · exact ⟨rfl, _, rfl, .inl rfl⟩
  refine lps [0, 1, 5] [] (fun s : Nat × Int => s.1 ≤ l.length ∧ 0 ≤ s.2 ∧ s.2 ≤ left ∧ ∀ a ∈ l.take s.1, TinyS a) (fun s => l.length - s.1)
    (fun s => ([.v (.slice p l.length c), .v (.int .i64 s.2), .v (.int .i64 s.1)], [], h)) (0, left - l.length) ⟨by omega, by simp only; omega, by simp only; omega, by simp⟩ rfl ?_
  rintro ⟨i, k⟩ ⟨hi, k0, k1, hT⟩
  simp only at hi k0 k1 hT ⊢
  conv => whnf
  refine selP (fun g2 => ?_) (fun g2 => ?_)
  all_goals conv => whnf
  · have hil : i < l.length := by omega
    have e := hr.get hil
    obtain ⟨b, off, vs, hq, e1, e2⟩ := e
    have e2' := e2
    obtain ⟨_, _, rfl, _⟩ := e2'
    refine ob (by omega) ?_
    conv => whnf
    refine ptr' hq ?_
    conv => whnf
    refine ldn e1 ?_
    conv => whnf
    refine call_r (szShape_c _ _ h e2 k ⟨k0, by omega⟩) ?_
    rintro v' h' ⟨rfl, r, rfl, hr'⟩
    conv => whnf
    refine selP (fun g3 => ?_) (fun g3 => ?_)
    all_goals conv => whnf
    · exact ⟨rfl, _, rfl, .inl rfl⟩
    · obtain ⟨q0, q1, q2⟩ := hr'.resolve_left (by omega)
      refine ar_in (by omega) (by omega) ?_
      conv => whnf
      exact lpn (i + 1, r) ⟨by simp only; omega, q0, by simp only; omega, take_all hT hil q2⟩ (by simp only; omega) rfl
  · exact ⟨rfl, _, rfl, .inr ⟨k0, k1, by unfold T20; omega, by rw [List.take_of_length_le (by omega)] at hT; exact hT⟩⟩
theorem szMethod_c (x : List Value) (a : Mth) (h : Heap) (hr : MthR h x a) (left : Int) (hl : 0 ≤ left ∧ left ≤ 1048576) : Rets Tryz.prog 96 [.agg ⟨x⟩, .int .i64 left] h (SzR left (TinyM a) h) := by
  obtain ⟨y1, y2, y3, y4, rfl, i1, i2, i3, i4, h1, h2, h3, h4⟩ := hr
  have f := h1.len
  obtain ⟨_, _, rfl, _, _⟩ := f
  have f := h2.len
  obtain ⟨_, _, rfl, _, _⟩ := f
  have f := h3.len
  obtain ⟨_, _, rfl, _, _⟩ := f
  have f := h4.len
  obtain ⟨_, _, rfl, _, _⟩ := f
  refine rets Tryz.sigOk Tryz.func96 Tryz.F96 Tryz.ok96 rfl ?_
  conv => whnf
  refine call_r (szIntS_c _ _ h h1 left ⟨by omega, by omega⟩) ?_
  rintro v0 h0 ⟨rfl, r0, rfl, q0⟩
  conv => whnf
  refine selP (fun g => ?_) (fun g => ?_)
  all_goals conv => whnf
  · exact ⟨rfl, _, rfl, .inl rfl⟩
  obtain ⟨a0, b0, t0⟩ := q0.resolve_left (by omega)
  refine call_r (szInsS_c _ _ h h2 r0 ⟨by omega, by omega⟩) ?_
  rintro v1 h1 ⟨rfl, r1, rfl, q1⟩
  conv => whnf
  refine selP (fun g => ?_) (fun g => ?_)
  all_goals conv => whnf
  · exact ⟨rfl, _, rfl, .inl rfl⟩
  obtain ⟨a1, b1, t1⟩ := q1.resolve_left (by omega)
  refine call_r (szShapeS_c _ _ h h3 r1 ⟨by omega, by omega⟩) ?_
  rintro v2 h2 ⟨rfl, r2, rfl, q2⟩
  conv => whnf
  refine selP (fun g => ?_) (fun g => ?_)
  all_goals conv => whnf
  · exact ⟨rfl, _, rfl, .inl rfl⟩
  obtain ⟨a2, b2, t2⟩ := q2.resolve_left (by omega)
  refine call_r (szCatchS_c _ _ h h4 r2 ⟨by omega, by omega⟩) ?_
  rintro v3 h3 ⟨rfl, r3, rfl, q3⟩
  conv => whnf
  refine selP (fun g => ?_) (fun g => ?_)
  all_goals conv => whnf
  · exact ⟨rfl, _, rfl, .inl rfl⟩
  obtain ⟨a3, b3, t3⟩ := q3.resolve_left (by omega)
  exact ⟨rfl, _, rfl, .inr ⟨by omega, by omega, ⟨t0, t1, t2.1, t2.2, t3⟩⟩⟩
theorem szMethodS_c (v : Value) (l : List Mth) (h : Heap) (hr : Row 8 MthR h v l) (left : Int) (hl : 0 ≤ left ∧ left ≤ 1048576) : Rets Tryz.prog 40 [v, .int .i64 left] h (SzR left (T20 l.length ∧ ∀ a ∈ l, TinyM a) h) := by
  have f := hr.len
  obtain ⟨p, c, rfl, hc, hn⟩ := f
  refine rets Tryz.sigOk Tryz.func40 Tryz.F40 Tryz.ok40 rfl ?_
  conv => whnf
  refine ar_in (by omega) (by omega) ?_
  conv => whnf
  refine selP (fun g => ?_) (fun g => ?_)
  all_goals conv => whnf
  · exact ⟨rfl, _, rfl, .inl rfl⟩
  refine lps [0, 1, 5] [] (fun s : Nat × Int => s.1 ≤ l.length ∧ 0 ≤ s.2 ∧ s.2 ≤ left ∧ ∀ a ∈ l.take s.1, TinyM a) (fun s => l.length - s.1)
    (fun s => ([.v (.slice p l.length c), .v (.int .i64 s.2), .v (.int .i64 s.1)], [], h)) (0, left - l.length) ⟨by omega, by simp only; omega, by simp only; omega, by simp⟩ rfl ?_
  rintro ⟨i, k⟩ ⟨hi, k0, k1, hT⟩
  simp only at hi k0 k1 hT ⊢
  conv => whnf
  refine selP (fun g2 => ?_) (fun g2 => ?_)
  all_goals conv => whnf
  · have hil : i < l.length := by omega
    have e := hr.get hil
    obtain ⟨b, off, vs, hq, e1, e2⟩ := e
    have e2' := e2
    obtain ⟨_, _, _, _, rfl, _⟩ := e2'
    refine ob (by omega) ?_
    conv => whnf
    refine ptr' hq ?_
    conv => whnf
    refine ldn e1 ?_
    conv => whnf
    refine call_r (szMethod_c _ _ h e2 k ⟨k0, by omega⟩) ?_
    rintro v' h' ⟨rfl, r, rfl, hr'⟩
    conv => whnf
    refine selP (fun g3 => ?_) (fun g3 => ?_)
    all_goals conv => whnf
    · exact ⟨rfl, _, rfl, .inl rfl⟩
    · obtain ⟨q0, q1, q2⟩ := hr'.resolve_left (by omega)
      refine ar_in (by omega) (by omega) ?_
      conv => whnf
      exact lpn (i + 1, r) ⟨by simp only; omega, q0, by simp only; omega, take_all hT hil q2⟩ (by simp only; omega) rfl
  · exact ⟨rfl, _, rfl, .inr ⟨k0, k1, by unfold T20; omega, by rw [List.take_of_length_le (by omega)] at hT; exact hT⟩⟩
theorem szUnit_c (x : List Value) (a : Unt) (h : Heap) (hr : UntR h x a) (left : Int) (hl : 0 ≤ left ∧ left ≤ 1048576) : Rets Tryz.prog 14 [.agg ⟨x⟩, .int .i64 left] h (SzR left (TinyU a) h) := by
  obtain ⟨y1, y2, rfl, h1, h2⟩ := hr
  have f := h1.len
  obtain ⟨_, _, rfl, _, _⟩ := f
  have f := h2.len
  obtain ⟨_, _, rfl, _, _⟩ := f
  refine rets Tryz.sigOk Tryz.func14 Tryz.F14 Tryz.ok14 rfl ?_
  conv => whnf
  refine call_r (szClassS_c _ _ h h1 left ⟨by omega, by omega⟩) ?_
  rintro v0 h0 ⟨rfl, r0, rfl, q0⟩
  conv => whnf
  refine selP (fun g => ?_) (fun g => ?_)
  all_goals conv => whnf
  · exact ⟨rfl, _, rfl, .inl rfl⟩
  obtain ⟨a0, b0, t0⟩ := q0.resolve_left (by omega)
  refine call_r (szMethodS_c _ _ h h2 r0 ⟨by omega, by omega⟩) ?_
  rintro v1 h1 ⟨rfl, r1, rfl, q1⟩
  conv => whnf
  refine selP (fun g => ?_) (fun g => ?_)
  all_goals conv => whnf
  · exact ⟨rfl, _, rfl, .inl rfl⟩
  obtain ⟨a1, b1, t1⟩ := q1.resolve_left (by omega)
  exact ⟨rfl, _, rfl, .inr ⟨by omega, by omega, ⟨t0.1, t0.2, t1.1, t1.2⟩⟩⟩
end Go.Proofs
namespace Go.Proofs
open Go.Vc
set_option maxRecDepth 100000
set_option maxHeartbeats 4000000
theorem ints_el {h : Heap} {p : Option Addr} {n c : Nat} {l : List Int} (hr : Ints h (.slice p n c) l) {i : Nat} (hi : i < l.length) : ∃ b off, p = some ⟨b, off, none⟩ ∧ rd h b (off + i * 1) = some (.int .i64 l[i]) := by
  obtain ⟨b, off, vs, e, h1, h2, _⟩ := hr.get hi
  subst h2
  exact ⟨b, off, e, rdn_get h1 (i := 0) rfl⟩
theorem nd_nil : Nd ([] : List Nat) := fun _ => by simp
theorem toIntS_c (v : Value) (l : List Int) (h : Heap) (hr : Ints h v l) (ht : T20 l.length) : Rets Tryz.prog 176 [v] h (ToR OwnI l h) := by
  have f := hr.len
  obtain ⟨p, c, rfl, hc, hn⟩ := f
  unfold T20 at ht
  refine rets Tryz.sigOk Tryz.func176 Tryz.F176 Tryz.ok176 rfl ?_
  conv => whnf
  refine ob (by dsimp only; omega) ?_
  conv => whnf
  refine new' (List.replicate l.length [.int .i64 0]).flatten rfl (fun b h1 hb he l1 hg => ?_)
  conv => whnf
  refine lps [0, 3, 4] [] (fun s : Nat × Heap × List Nat => s.1 ≤ l.length ∧ Fill OwnN 1 [.int .i64 0] h s.2.1 b l.length (l.take s.1) s.2.2) (fun s => l.length - s.1)
    (fun s => ([.v (.slice p l.length c), .v (.slice (some ⟨b, 0, none⟩) l.length l.length), .v (.int .i64 s.1)], [], s.2.1)) (0, h1, []) ⟨by omega, Fill.start hb he⟩ rfl ?_
  rintro ⟨i, h2, B⟩ ⟨hi, hF⟩
  simp only at hi hF ⊢
  conv => whnf
  refine selP (fun g => ?_) (fun g => ?_)
  all_goals conv => whnf
  · have hil : i < l.length := by omega
    have e := ints_el hr hil
    obtain ⟨b2, off, hq, e1⟩ := e
    refine ob (by omega) ?_
    conv => whnf
    refine ptr' hq ?_
    conv => whnf
    refine ld (rd_le hF.le e1) ?_
    conv => whnf
    refine ob (by omega) ?_
    conv => whnf
    refine ptr ?_
    conv => whnf
    refine Fill.st keptN inN hF (Heap.le_refl h2) (a := l[i]) (Bi := []) ⟨rfl, rfl⟩ nd_nil (by simp) (by simp; omega) rfl rfl (by simp; omega) (fun h3 hF3 => ?_)
    conv => whnf
    refine ar_in (by omega) (by omega) ?_
    conv => whnf
    exact lpn (i + 1, h3, B ++ []) ⟨by simp only; omega, hF3.next hil⟩ (by simp only; omega) rfl
  · exact hF.toI (by omega)
theorem toIns_c (x : List Value) (a : Ins) (h : Heap) (hr : InsR h x a) : Rets Tryz.prog 227 [.agg ⟨x⟩] h (ToR (Agg OwnIns) a h) := by
  obtain ⟨rfl, _, _, _⟩ := hr
  refine rets Tryz.sigOk Tryz.func227 Tryz.F227 Tryz.ok227 rfl ?_
  conv => whnf
  exact ⟨Heap.le_refl h, [], ⟨_, rfl, rfl, rfl⟩, nd_nil, by simp⟩
theorem toCatch_c (x : List Value) (a : Ctc) (h : Heap) (hr : CtcR h x a) : Rets Tryz.prog 229 [.agg ⟨x⟩] h (ToR (Agg OwnCtc) a h) := by
  obtain ⟨rfl, _, _, _, _⟩ := hr
  refine rets Tryz.sigOk Tryz.func229 Tryz.F229 Tryz.ok229 rfl ?_
  conv => whnf
  exact ⟨Heap.le_refl h, [], ⟨_, rfl, rfl, rfl⟩, nd_nil, by simp⟩
theorem toClass_c (x : List Value) (a : Cls) (h : Heap) (hr : ClsR h x a) (ht : TinyC a) : Rets Tryz.prog 101 [.agg ⟨x⟩] h (ToR (Agg OwnCls) a h) := by
  obtain ⟨y1, rfl, _, h1⟩ := hr
  have f := h1.len
  obtain ⟨_, _, rfl, _, _⟩ := f
  refine rets Tryz.sigOk Tryz.func101 Tryz.F101 Tryz.ok101 rfl ?_
  conv => whnf
  refine call_r (toIntS_c _ _ h h1 ht) ?_
  rintro v0 h_0 ⟨l0, B0, o0, n0, f0⟩
  have nw0 : Nw h h_0 B0 := ⟨l0, n0, f0, OwnC.in o0⟩
  have w0 : Nw h h_0 (B0) := nw0
  have f := o0.form
  obtain ⟨_, _, rfl, _⟩ := f
  conv => whnf
  have w : Nw h h_0 _ := nw0
  exact ⟨w.le, _, ⟨_, rfl, _, rfl, o0⟩, w.nd, w.fr⟩
theorem toShape_c (x : List Value) (a : Shp) (h : Heap) (hr : ShpR h x a) (ht : TinyS a) : Rets Tryz.prog 228 [.agg ⟨x⟩] h (ToR (Agg OwnShp) a h) := by
  obtain ⟨y1, y2, rfl, h1, h2⟩ := hr
  have f := h1.len
  obtain ⟨_, _, rfl, _, _⟩ := f
  have f := h2.len
  obtain ⟨_, _, rfl, _, _⟩ := f
  refine rets Tryz.sigOk Tryz.func228 Tryz.F228 Tryz.ok228 rfl ?_
  conv => whnf
  refine call_r (toIntS_c _ _ h h1 ht.1) ?_
  rintro v0 h_0 ⟨l0, B0, o0, n0, f0⟩
  have nw0 : Nw h h_0 B0 := ⟨l0, n0, f0, OwnC.in o0⟩
  have w0 : Nw h h_0 (B0) := nw0
  have f := o0.form
  obtain ⟨_, _, rfl, _⟩ := f
  conv => whnf
  refine call_r (toIntS_c _ _ h_0 (h2.le w0.le) ht.2) ?_
  rintro v1 h_1 ⟨l1, B1, o1, n1, f1⟩
  have nw1 : Nw h_0 h_1 B1 := ⟨l1, n1, f1, OwnC.in o1⟩
  have w1 : Nw h h_1 (_) := w0.trans nw1
  have f := o1.form
  obtain ⟨_, _, rfl, _⟩ := f
  conv => whnf
  have m0 : h_0.le h_1 := l1
  have w : Nw h h_1 _ := nw0.trans (nw1)
  exact ⟨w.le, _, ⟨_, rfl, _, _, _, _, rfl, o0.keep (Keep.of_le m0 _), o1, rfl⟩, w.nd, w.fr⟩
theorem toInsS_c (v : Value) (l : List Ins) (h : Heap) (hr : Row 3 InsR h v l) (ht : T20 l.length) (hT : ∀ a ∈ l, True) : Rets Tryz.prog 177 [v] h (ToR (OwnL OwnIns 3) l h) := by
  have f := hr.len
  obtain ⟨p, c, rfl, hc, hn⟩ := f
  unfold T20 at ht
  refine rets Tryz.sigOk Tryz.func177 Tryz.F177 Tryz.ok177 rfl ?_
  conv => whnf
  refine ob (by dsimp only; omega) ?_
  conv => whnf
  refine new' (List.replicate l.length [.int .i64 0, .int .i64 0, .int .i64 0]).flatten rfl (fun b h1 hb he l1 hg => ?_)
  conv => whnf
  refine lps [0, 3, 4] [] (fun s : Nat × Heap × List Nat => s.1 ≤ l.length ∧ Fill OwnIns 3 [.int .i64 0, .int .i64 0, .int .i64 0] h s.2.1 b l.length (l.take s.1) s.2.2) (fun s => l.length - s.1)
    (fun s => ([.v (.slice p l.length c), .v (.slice (some ⟨b, 0, none⟩) l.length l.length), .v (.int .i64 s.1)], [], s.2.1)) (0, h1, []) ⟨by omega, Fill.start hb he⟩ rfl ?_
  rintro ⟨i, h2, B⟩ ⟨hi, hF⟩
  simp only at hi hF ⊢
  conv => whnf
  refine selP (fun g => ?_) (fun g => ?_)
  all_goals conv => whnf
  · have hil : i < l.length := by omega
    have e := (hr.le hF.le (fun _ _ hx => hx)).get hil
    obtain ⟨b2, off, vs, hq, e1, e2⟩ := e
    have e2' := e2
    obtain ⟨rfl, _⟩ := e2'
    refine ob (by omega) ?_
    conv => whnf
    refine ptr' hq ?_
    conv => whnf
    refine ldn e1 ?_
    conv => whnf
    refine call_r (toIns_c _ _ h2 e2) ?_
    rintro v3 h3 ⟨l3, Bi, ⟨x, rfl, hx⟩, nd3, fr3⟩
    have hx' := hx
    obtain ⟨rfl, _⟩ := hx'
    conv => whnf
    refine ob (by omega) ?_
    conv => whnf
    refine ptr ?_
    conv => whnf
    refine Fill.st keptIns inIns hF l3 (a := l[i]) (Bi := Bi) hx nd3 fr3 (by simp; omega) rfl rfl (by simp; omega) (fun h4 hF4 => ?_)
    conv => whnf
    refine ar_in (by omega) (by omega) ?_
    conv => whnf
    exact lpn (i + 1, h4, B ++ Bi) ⟨by simp only; omega, hF4.next hil⟩ (by simp only; omega) rfl
  · exact hF.toR (by omega)
theorem toCatchS_c (v : Value) (l : List Ctc) (h : Heap) (hr : Row 4 CtcR h v l) (ht : T20 l.length) (hT : ∀ a ∈ l, True) : Rets Tryz.prog 179 [v] h (ToR (OwnL OwnCtc 4) l h) := by
  have f := hr.len
  obtain ⟨p, c, rfl, hc, hn⟩ := f
  unfold T20 at ht
  refine rets Tryz.sigOk Tryz.func179 Tryz.F179 Tryz.ok179 rfl ?_
  conv => whnf
  refine ob (by dsimp only; omega) ?_
  conv => whnf
  refine new' (List.replicate l.length [.int .i64 0, .int .i64 0, .int .i64 0, .int .i64 0]).flatten rfl (fun b h1 hb he l1 hg => ?_)
  conv => whnf
  refine lps [0, 3, 4] [] (fun s : Nat × Heap × List Nat => s.1 ≤ l.length ∧ Fill OwnCtc 4 [.int .i64 0, .int .i64 0, .int .i64 0, .int .i64 0] h s.2.1 b l.length (l.take s.1) s.2.2) (fun s => l.length - s.1)
    (fun s => ([.v (.slice p l.length c), .v (.slice (some ⟨b, 0, none⟩) l.length l.length), .v (.int .i64 s.1)], [], s.2.1)) (0, h1, []) ⟨by omega, Fill.start hb he⟩ rfl ?_
  rintro ⟨i, h2, B⟩ ⟨hi, hF⟩
  simp only at hi hF ⊢
  conv => whnf
  refine selP (fun g => ?_) (fun g => ?_)
  all_goals conv => whnf
  · have hil : i < l.length := by omega
    have e := (hr.le hF.le (fun _ _ hx => hx)).get hil
    obtain ⟨b2, off, vs, hq, e1, e2⟩ := e
    have e2' := e2
    obtain ⟨rfl, _⟩ := e2'
    refine ob (by omega) ?_
    conv => whnf
    refine ptr' hq ?_
    conv => whnf
    refine ldn e1 ?_
    conv => whnf
    refine call_r (toCatch_c _ _ h2 e2) ?_
    rintro v3 h3 ⟨l3, Bi, ⟨x, rfl, hx⟩, nd3, fr3⟩
    have hx' := hx
    obtain ⟨rfl, _⟩ := hx'
    conv => whnf
    refine ob (by omega) ?_
    conv => whnf
    refine ptr ?_
    conv => whnf
    refine Fill.st keptCtc inCtc hF l3 (a := l[i]) (Bi := Bi) hx nd3 fr3 (by simp; omega) rfl rfl (by simp; omega) (fun h4 hF4 => ?_)
    conv => whnf
    refine ar_in (by omega) (by omega) ?_
    conv => whnf
    exact lpn (i + 1, h4, B ++ Bi) ⟨by simp only; omega, hF4.next hil⟩ (by simp only; omega) rfl
  · exact hF.toR (by omega)
theorem toShapeS_c (v : Value) (l : List Shp) (h : Heap) (hr : Row 3 ShpR h v l) (ht : T20 l.length) (hT : ∀ a ∈ l, TinyS a) : Rets Tryz.prog 178 [v] h (ToR (OwnL OwnShp 3) l h) := by
  have f := hr.len
  obtain ⟨p, c, rfl, hc, hn⟩ := f
  unfold T20 at ht
  refine rets Tryz.sigOk Tryz.func178 Tryz.F178 Tryz.ok178 rfl ?_
  conv => whnf
  refine ob (by dsimp only; omega) ?_
  conv => whnf
  refine new' (List.replicate l.length [.bool false, .slice none 0 0, .slice none 0 0]).flatten rfl (fun b h1 hb he l1 hg => ?_)
  conv => whnf
  refine lps [0, 3, 4] [] (fun s : Nat × Heap × List Nat => s.1 ≤ l.length ∧ Fill OwnShp 3 [.bool false, .slice none 0 0, .slice none 0 0] h s.2.1 b l.length (l.take s.1) s.2.2) (fun s => l.length - s.1)
    (fun s => ([.v (.slice p l.length c), .v (.slice (some ⟨b, 0, none⟩) l.length l.length), .v (.int .i64 s.1)], [], s.2.1)) (0, h1, []) ⟨by omega, Fill.start hb he⟩ rfl ?_
  rintro ⟨i, h2, B⟩ ⟨hi, hF⟩
  simp only at hi hF ⊢
  conv => whnf
  refine selP (fun g => ?_) (fun g => ?_)
  all_goals conv => whnf
  · have hil : i < l.length := by omega
    have e := (hr.le hF.le (fun _ _ hx => hx.le hF.le)).get hil
    obtain ⟨b2, off, vs, hq, e1, e2⟩ := e
    have e2' := e2
    obtain ⟨_, _, rfl, _⟩ := e2'
    refine ob (by omega) ?_
    conv => whnf
    refine ptr' hq ?_
    conv => whnf
    refine ldn e1 ?_
    conv => whnf
    refine call_r (toShape_c _ _ h2 e2 (hT _ (List.getElem_mem _))) ?_
    rintro v3 h3 ⟨l3, Bi, ⟨x, rfl, hx⟩, nd3, fr3⟩
    have hx' := hx
    obtain ⟨_, _, _, _, rfl, z1, z2, _⟩ := hx'
    have f := z1.form
    obtain ⟨_, _, rfl, _⟩ := f
    have f := z2.form
    obtain ⟨_, _, rfl, _⟩ := f
    conv => whnf
    refine ob (by omega) ?_
    conv => whnf
    refine ptr ?_
    conv => whnf
    refine Fill.st keptShp inShp hF l3 (a := l[i]) (Bi := Bi) hx nd3 fr3 (by simp; omega) rfl rfl (by simp; omega) (fun h4 hF4 => ?_)
    conv => whnf
    refine ar_in (by omega) (by omega) ?_
    conv => whnf
    exact lpn (i + 1, h4, B ++ Bi) ⟨by simp only; omega, hF4.next hil⟩ (by simp only; omega) rfl
  · exact hF.toR (by omega)
theorem toClassS_c (v : Value) (l : List Cls) (h : Heap) (hr : Row 2 ClsR h v l) (ht : T20 l.length) (hT : ∀ a ∈ l, TinyC a) : Rets Tryz.prog 44 [v] h (ToR (OwnL OwnCls 2) l h) := by
  have f := hr.len
  obtain ⟨p, c, rfl, hc, hn⟩ := f
  unfold T20 at ht
  refine rets Tryz.sigOk Tryz.func44 Tryz.F44 Tryz.ok44 rfl ?_
  conv => whnf
  refine ob (by dsimp only; omega) ?_
  conv => whnf
  refine new' (List.replicate l.length [.int .i64 0, .slice none 0 0]).flatten rfl (fun b h1 hb he l1 hg => ?_)
  conv => whnf
  refine lps [0, 3, 4] [] (fun s : Nat × Heap × List Nat => s.1 ≤ l.length ∧ Fill OwnCls 2 [.int .i64 0, .slice none 0 0] h s.2.1 b l.length (l.take s.1) s.2.2) (fun s => l.length - s.1)
    (fun s => ([.v (.slice p l.length c), .v (.slice (some ⟨b, 0, none⟩) l.length l.length), .v (.int .i64 s.1)], [], s.2.1)) (0, h1, []) ⟨by omega, Fill.start hb he⟩ rfl ?_
  rintro ⟨i, h2, B⟩ ⟨hi, hF⟩
  simp only at hi hF ⊢
  conv => whnf
  refine selP (fun g => ?_) (fun g => ?_)
  all_goals conv => whnf
  · have hil : i < l.length := by omega
    have e := (hr.le hF.le (fun _ _ hx => hx.le hF.le)).get hil
    obtain ⟨b2, off, vs, hq, e1, e2⟩ := e
    have e2' := e2
    obtain ⟨_, rfl, _⟩ := e2'
    refine ob (by omega) ?_
    conv => whnf
    refine ptr' hq ?_
    conv => whnf
    refine ldn e1 ?_
    conv => whnf
    refine call_r (toClass_c _ _ h2 e2 (hT _ (List.getElem_mem _))) ?_
    rintro v3 h3 ⟨l3, Bi, ⟨x, rfl, hx⟩, nd3, fr3⟩
    have hx' := hx
    obtain ⟨_, rfl, z1⟩ := hx'
    have f := z1.form
    obtain ⟨_, _, rfl, _⟩ := f
    conv => whnf
    refine ob (by omega) ?_
    conv => whnf
    refine ptr ?_
    conv => whnf
    refine Fill.st keptCls inCls hF l3 (a := l[i]) (Bi := Bi) hx nd3 fr3 (by simp; omega) rfl rfl (by simp; omega) (fun h4 hF4 => ?_)
    conv => whnf
    refine ar_in (by omega) (by omega) ?_
    conv => whnf
    exact lpn (i + 1, h4, B ++ Bi) ⟨by simp only; omega, hF4.next hil⟩ (by simp only; omega) rfl
  · exact hF.toR (by omega)
theorem toMethod_c (x : List Value) (a : Mth) (h : Heap) (hr : MthR h x a) (ht : TinyM a) : Rets Tryz.prog 102 [.agg ⟨x⟩] h (ToR (Agg OwnMth) a h) := by
  obtain ⟨y1, y2, y3, y4, rfl, i1, i2, i3, i4, h1, h2, h3, h4⟩ := hr
  have f := h1.len
  obtain ⟨_, _, rfl, _, _⟩ := f
  have f := h2.len
  obtain ⟨_, _, rfl, _, _⟩ := f
  have f := h3.len
  obtain ⟨_, _, rfl, _, _⟩ := f
  have f := h4.len
  obtain ⟨_, _, rfl, _, _⟩ := f
  refine rets Tryz.sigOk Tryz.func102 Tryz.F102 Tryz.ok102 rfl ?_
  conv => whnf
  refine call_r (toIntS_c _ _ h h1 ht.args) ?_
  rintro v0 h_0 ⟨l0, B0, o0, n0, f0⟩
  have nw0 : Nw h h_0 B0 := ⟨l0, n0, f0, OwnC.in o0⟩
  have w0 : Nw h h_0 (B0) := nw0
  have f := o0.form
  obtain ⟨_, _, rfl, _⟩ := f
  conv => whnf
  refine call_r (toInsS_c _ _ h_0 (h2.le w0.le (fun _ _ hx => hx)) ht.code (fun _ _ => trivial)) ?_
  rintro v1 h_1 ⟨l1, B1, o1, n1, f1⟩
  have nw1 : Nw h_0 h_1 B1 := ⟨l1, n1, f1, OwnL.in inIns o1⟩
  have w1 : Nw h h_1 (_) := w0.trans nw1
  have f := o1.form
  obtain ⟨_, _, rfl, _⟩ := f
  conv => whnf
  refine call_r (toShapeS_c _ _ h_1 (h3.le w1.le (fun _ _ hx => hx.le w1.le)) ht.shapes ht.each) ?_
  rintro v2 h_2 ⟨l2, B2, o2, n2, f2⟩
  have nw2 : Nw h_1 h_2 B2 := ⟨l2, n2, f2, OwnL.in inShp o2⟩
  have w2 : Nw h h_2 (_) := w1.trans nw2
  have f := o2.form
  obtain ⟨_, _, rfl, _⟩ := f
  conv => whnf
  refine call_r (toCatchS_c _ _ h_2 (h4.le w2.le (fun _ _ hx => hx)) ht.catches (fun _ _ => trivial)) ?_
  rintro v3 h_3 ⟨l3, B3, o3, n3, f3⟩
  have nw3 : Nw h_2 h_3 B3 := ⟨l3, n3, f3, OwnL.in inCtc o3⟩
  have w3 : Nw h h_3 (_) := w2.trans nw3
  have f := o3.form
  obtain ⟨_, _, rfl, _⟩ := f
  conv => whnf
  have m0 : h_0.le h_3 := Heap.le_trans l1 (Heap.le_trans l2 (l3))
  have m1 : h_1.le h_3 := Heap.le_trans l2 (l3)
  have m2 : h_2.le h_3 := l3
  have w : Nw h h_3 _ := nw0.trans (nw1.trans (nw2.trans (nw3)))
  exact ⟨w.le, _, ⟨_, rfl, _, _, _, _, _, _, _, _, rfl, o0.keep (Keep.of_le m0 _), o1.keep keptIns (Keep.of_le m1 _), o2.keep keptShp (Keep.of_le m2 _), o3, rfl⟩, w.nd, w.fr⟩
theorem toMethodS_c (v : Value) (l : List Mth) (h : Heap) (hr : Row 8 MthR h v l) (ht : T20 l.length) (hT : ∀ a ∈ l, TinyM a) : Rets Tryz.prog 45 [v] h (ToR (OwnL OwnMth 8) l h) := by
  have f := hr.len
  obtain ⟨p, c, rfl, hc, hn⟩ := f
  unfold T20 at ht
  refine rets Tryz.sigOk Tryz.func45 Tryz.F45 Tryz.ok45 rfl ?_
  conv => whnf
  refine ob (by dsimp only; omega) ?_
  conv => whnf
  refine new' (List.replicate l.length [.int .i64 0, .int .i64 0, .slice none 0 0, .int .i64 0, .int .i64 0, .slice none 0 0, .slice none 0 0, .slice none 0 0]).flatten rfl (fun b h1 hb he l1 hg => ?_)
  conv => whnf
  refine lps [0, 3, 4] [] (fun s : Nat × Heap × List Nat => s.1 ≤ l.length ∧ Fill OwnMth 8 [.int .i64 0, .int .i64 0, .slice none 0 0, .int .i64 0, .int .i64 0, .slice none 0 0, .slice none 0 0, .slice none 0 0] h s.2.1 b l.length (l.take s.1) s.2.2) (fun s => l.length - s.1)
    (fun s => ([.v (.slice p l.length c), .v (.slice (some ⟨b, 0, none⟩) l.length l.length), .v (.int .i64 s.1)], [], s.2.1)) (0, h1, []) ⟨by omega, Fill.start hb he⟩ rfl ?_
  rintro ⟨i, h2, B⟩ ⟨hi, hF⟩
  simp only at hi hF ⊢
  conv => whnf
  refine selP (fun g => ?_) (fun g => ?_)
  all_goals conv => whnf
  · have hil : i < l.length := by omega
    have e := (hr.le hF.le (fun _ _ hx => hx.le hF.le)).get hil
    obtain ⟨b2, off, vs, hq, e1, e2⟩ := e
    have e2' := e2
    obtain ⟨_, _, _, _, rfl, _⟩ := e2'
    refine ob (by omega) ?_
    conv => whnf
    refine ptr' hq ?_
    conv => whnf
    refine ldn e1 ?_
    conv => whnf
    refine call_r (toMethod_c _ _ h2 e2 (hT _ (List.getElem_mem _))) ?_
    rintro v3 h3 ⟨l3, Bi, ⟨x, rfl, hx⟩, nd3, fr3⟩
    have hx' := hx
    obtain ⟨_, _, _, _, _, _, _, _, rfl, z1, z2, z3, z4, _⟩ := hx'
    have f := z1.form
    obtain ⟨_, _, rfl, _⟩ := f
    have f := z2.form
    obtain ⟨_, _, rfl, _⟩ := f
    have f := z3.form
    obtain ⟨_, _, rfl, _⟩ := f
    have f := z4.form
    obtain ⟨_, _, rfl, _⟩ := f
    conv => whnf
    refine ob (by omega) ?_
    conv => whnf
    refine ptr ?_
    conv => whnf
    refine Fill.st keptMth inMth hF l3 (a := l[i]) (Bi := Bi) hx nd3 fr3 (by simp; omega) rfl rfl (by simp; omega) (fun h4 hF4 => ?_)
    conv => whnf
    refine ar_in (by omega) (by omega) ?_
    conv => whnf
    exact lpn (i + 1, h4, B ++ Bi) ⟨by simp only; omega, hF4.next hil⟩ (by simp only; omega) rfl
  · exact hF.toR (by omega)
theorem toUnit_c (x : List Value) (a : Unt) (h : Heap) (hr : UntR h x a) (ht : TinyU a) : Rets Tryz.prog 16 [.agg ⟨x⟩] h (ToR (Agg OwnUnt) a h) := by
  obtain ⟨y1, y2, rfl, h1, h2⟩ := hr
  have f := h1.len
  obtain ⟨_, _, rfl, _, _⟩ := f
  have f := h2.len
  obtain ⟨_, _, rfl, _, _⟩ := f
  refine rets Tryz.sigOk Tryz.func16 Tryz.F16 Tryz.ok16 rfl ?_
  conv => whnf
  refine call_r (toClassS_c _ _ h h1 ht.classes ht.cls) ?_
  rintro v0 h_0 ⟨l0, B0, o0, n0, f0⟩
  have nw0 : Nw h h_0 B0 := ⟨l0, n0, f0, OwnL.in inCls o0⟩
  have w0 : Nw h h_0 (B0) := nw0
  have f := o0.form
  obtain ⟨_, _, rfl, _⟩ := f
  conv => whnf
  refine call_r (toMethodS_c _ _ h_0 (h2.le w0.le (fun _ _ hx => hx.le w0.le)) ht.methods ht.mth) ?_
  rintro v1 h_1 ⟨l1, B1, o1, n1, f1⟩
  have nw1 : Nw h_0 h_1 B1 := ⟨l1, n1, f1, OwnL.in inMth o1⟩
  have w1 : Nw h h_1 (_) := w0.trans nw1
  have f := o1.form
  obtain ⟨_, _, rfl, _⟩ := f
  conv => whnf
  have m0 : h_0.le h_1 := l1
  have w : Nw h h_1 _ := nw0.trans (nw1)
  exact ⟨w.le, _, ⟨_, rfl, _, _, _, _, rfl, o0.keep keptCls (Keep.of_le m0 _), o1, rfl⟩, w.nd, w.fr⟩
end Go.Proofs
namespace Go.Proofs
open Go.Vc
set_option maxRecDepth 100000
set_option maxHeartbeats 4000000
theorem eqIntS_c (v w : Value) (l : List Int) (h : Heap) (hv : Row 1 IntQ h v l) (hw : Row 1 IntQ h w l) : Pure Tryz.prog 52 [v, w] h (.bool true) := by
  have f := hv.len
  obtain ⟨p, c, rfl, hc, hn⟩ := f
  have f := hw.len
  obtain ⟨q, d, rfl, hd, _⟩ := f
  refine pur Tryz.sigOk Tryz.func52 Tryz.F52 Tryz.ok52 rfl ?_
  conv => whnf
  refine selNPf (by omega) ?_
  conv => whnf
  refine lps [0, 1, 5] [] (fun i : Nat => i ≤ l.length) (fun i => l.length - i)
    (fun i => ([.v (.slice p l.length c), .v (.slice q l.length d), .v (.int .i64 i)], [], h)) 0 (Nat.zero_le _) rfl ?_
  intro i hi
  conv => whnf
  refine selP (fun g => ?_) (fun g => ?_)
  all_goals conv => whnf
  · have hil : i < l.length := by omega
    have e := hv.get hil
    obtain ⟨b, off, vs, hp, e1, e2⟩ := e
    have e := hw.get hil
    obtain ⟨b', off', ws, hq, d1, d2⟩ := e
    have e2' := e2
    have d2' := d2
    obtain rfl := e2'
    obtain rfl := d2'
    repeat' ((first | refine ptr' hp ?_ | refine ptr' hq ?_ | refine ld (rdn_get e1 (i := 0) rfl) ?_ | refine ld (rdn_get d1 (i := 0) rfl) ?_ | refine ar_in (by omega) (by omega) ?_ | refine ob (by omega) ?_) <;> conv => whnf)
    refine selNPf rfl ?_
    conv => whnf
    refine ar_in (by omega) (by omega) ?_
    conv => whnf
    exact lpn (i + 1) (by omega) (by omega) rfl
  · exact ⟨rfl, rfl⟩
theorem eqIns_c (x y : List Value) (a : Ins) (h : Heap) (hv : InsR h x a) (hw : InsR h y a) : Pure Tryz.prog 234 [.agg ⟨x⟩, .agg ⟨y⟩] h (.bool true) := by
  obtain ⟨rfl, _⟩ := hv
  obtain ⟨rfl, _⟩ := hw
  refine pur Tryz.sigOk Tryz.func234 Tryz.F234 Tryz.ok234 rfl ?_
  conv => whnf
  repeat' ((first | exact ⟨rfl, rfl⟩ | refine selNPf rfl ?_ | refine selB (fun g => ?_) (fun g => absurd g (by simp)) | refine selNB (fun g => absurd g (by simp)) (fun g => ?_)) <;> conv => whnf)
theorem eqCatch_c (x y : List Value) (a : Ctc) (h : Heap) (hv : CtcR h x a) (hw : CtcR h y a) : Pure Tryz.prog 236 [.agg ⟨x⟩, .agg ⟨y⟩] h (.bool true) := by
  obtain ⟨rfl, _⟩ := hv
  obtain ⟨rfl, _⟩ := hw
  refine pur Tryz.sigOk Tryz.func236 Tryz.F236 Tryz.ok236 rfl ?_
  conv => whnf
  repeat' ((first | exact ⟨rfl, rfl⟩ | refine selNPf rfl ?_ | refine selB (fun g => ?_) (fun g => absurd g (by simp)) | refine selNB (fun g => absurd g (by simp)) (fun g => ?_)) <;> conv => whnf)
theorem eqClass_c (x y : List Value) (a : Cls) (h : Heap) (hv : ClsR h x a) (hw : ClsR h y a) : Pure Tryz.prog 113 [.agg ⟨x⟩, .agg ⟨y⟩] h (.bool true) := by
  obtain ⟨_, rfl, _, v1⟩ := hv
  obtain ⟨_, rfl, _, w1⟩ := hw
  refine pur Tryz.sigOk Tryz.func113 Tryz.F113 Tryz.ok113 rfl ?_
  conv => whnf
  repeat' ((first | exact ⟨rfl, rfl⟩ | refine selNPf rfl ?_ | refine call_p (eqIntS_c _ _ _ h (intQ v1) (intQ w1)) ?_ | refine selB (fun g => ?_) (fun g => absurd g (by simp)) | refine selNB (fun g => absurd g (by simp)) (fun g => ?_)) <;> conv => whnf)
theorem eqShape_c (x y : List Value) (a : Shp) (h : Heap) (hv : ShpR h x a) (hw : ShpR h y a) : Pure Tryz.prog 235 [.agg ⟨x⟩, .agg ⟨y⟩] h (.bool true) := by
  obtain ⟨_, _, rfl, v1, v2⟩ := hv
  obtain ⟨_, _, rfl, w1, w2⟩ := hw
  refine pur Tryz.sigOk Tryz.func235 Tryz.F235 Tryz.ok235 rfl ?_
  conv => whnf
  repeat' ((first | exact ⟨rfl, rfl⟩ | refine selNPf rfl ?_ | refine call_p (eqIntS_c _ _ _ h (intQ v1) (intQ w1)) ?_ | refine call_p (eqIntS_c _ _ _ h (intQ v2) (intQ w2)) ?_ | refine selB (fun g => ?_) (fun g => absurd g (by simp)) | refine selNB (fun g => absurd g (by simp)) (fun g => ?_)) <;> conv => whnf)
theorem eqInsS_c (v w : Value) (l : List Ins) (h : Heap) (hv : Row 3 InsR h v l) (hw : Row 3 InsR h w l) : Pure Tryz.prog 193 [v, w] h (.bool true) := by
  have f := hv.len
  obtain ⟨p, c, rfl, hc, hn⟩ := f
  have f := hw.len
  obtain ⟨q, d, rfl, hd, _⟩ := f
  refine pur Tryz.sigOk Tryz.func193 Tryz.F193 Tryz.ok193 rfl ?_
  conv => whnf
  refine selNPf (by omega) ?_
  conv => whnf
  refine lps [0, 1, 5] [] (fun i : Nat => i ≤ l.length) (fun i => l.length - i)
    (fun i => ([.v (.slice p l.length c), .v (.slice q l.length d), .v (.int .i64 i)], [], h)) 0 (Nat.zero_le _) rfl ?_
  intro i hi
  conv => whnf
  refine selP (fun g => ?_) (fun g => ?_)
  all_goals conv => whnf
  · have hil : i < l.length := by omega
    have e := hv.get hil
    obtain ⟨b, off, vs, hp, e1, e2⟩ := e
    have e := hw.get hil
    obtain ⟨b', off', ws, hq, d1, d2⟩ := e
    have e2' := e2
    have d2' := d2
    obtain ⟨rfl, _⟩ := e2'
    obtain ⟨rfl, _⟩ := d2'
    repeat' ((first | refine ptr' hp ?_ | refine ptr' hq ?_ | refine ldn e1 ?_ | refine ldn d1 ?_ | refine callX_p (eqIns_c _ _ _ h e2 d2) ?_ | refine call_p (eqIns_c _ _ _ h e2 d2) ?_ | refine ar_in (by omega) (by omega) ?_ | refine ob (by omega) ?_) <;> conv => whnf)
    exact lpn (i + 1) (by omega) (by omega) rfl
  · exact ⟨rfl, rfl⟩
theorem eqCatchS_c (v w : Value) (l : List Ctc) (h : Heap) (hv : Row 4 CtcR h v l) (hw : Row 4 CtcR h w l) : Pure Tryz.prog 195 [v, w] h (.bool true) := by
  have f := hv.len
  obtain ⟨p, c, rfl, hc, hn⟩ := f
  have f := hw.len
  obtain ⟨q, d, rfl, hd, _⟩ := f
  refine pur Tryz.sigOk Tryz.func195 Tryz.F195 Tryz.ok195 rfl ?_
  conv => whnf
  refine selNPf (by omega) ?_
  conv => whnf
  refine lps [0, 1, 5] [] (fun i : Nat => i ≤ l.length) (fun i => l.length - i)
    (fun i => ([.v (.slice p l.length c), .v (.slice q l.length d), .v (.int .i64 i)], [], h)) 0 (Nat.zero_le _) rfl ?_
  intro i hi
  conv => whnf
  refine selP (fun g => ?_) (fun g => ?_)
  all_goals conv => whnf
  · have hil : i < l.length := by omega
    have e := hv.get hil
    obtain ⟨b, off, vs, hp, e1, e2⟩ := e
    have e := hw.get hil
    obtain ⟨b', off', ws, hq, d1, d2⟩ := e
    have e2' := e2
    have d2' := d2
    obtain ⟨rfl, _⟩ := e2'
    obtain ⟨rfl, _⟩ := d2'
    repeat' ((first | refine ptr' hp ?_ | refine ptr' hq ?_ | refine ldn e1 ?_ | refine ldn d1 ?_ | refine callX_p (eqCatch_c _ _ _ h e2 d2) ?_ | refine call_p (eqCatch_c _ _ _ h e2 d2) ?_ | refine ar_in (by omega) (by omega) ?_ | refine ob (by omega) ?_) <;> conv => whnf)
    exact lpn (i + 1) (by omega) (by omega) rfl
  · exact ⟨rfl, rfl⟩
theorem eqClassS_c (v w : Value) (l : List Cls) (h : Heap) (hv : Row 2 ClsR h v l) (hw : Row 2 ClsR h w l) : Pure Tryz.prog 54 [v, w] h (.bool true) := by
  have f := hv.len
  obtain ⟨p, c, rfl, hc, hn⟩ := f
  have f := hw.len
  obtain ⟨q, d, rfl, hd, _⟩ := f
  refine pur Tryz.sigOk Tryz.func54 Tryz.F54 Tryz.ok54 rfl ?_
  conv => whnf
  refine selNPf (by omega) ?_
  conv => whnf
  refine lps [0, 1, 5] [] (fun i : Nat => i ≤ l.length) (fun i => l.length - i)
    (fun i => ([.v (.slice p l.length c), .v (.slice q l.length d), .v (.int .i64 i)], [], h)) 0 (Nat.zero_le _) rfl ?_
  intro i hi
  conv => whnf
  refine selP (fun g => ?_) (fun g => ?_)
  all_goals conv => whnf
  · have hil : i < l.length := by omega
    have e := hv.get hil
    obtain ⟨b, off, vs, hp, e1, e2⟩ := e
    have e := hw.get hil
    obtain ⟨b', off', ws, hq, d1, d2⟩ := e
    have e2' := e2
    have d2' := d2
    obtain ⟨_, rfl, _⟩ := e2'
    obtain ⟨_, rfl, _⟩ := d2'
    repeat' ((first | refine ptr' hp ?_ | refine ptr' hq ?_ | refine ldn e1 ?_ | refine ldn d1 ?_ | refine callX_p (eqClass_c _ _ _ h e2 d2) ?_ | refine call_p (eqClass_c _ _ _ h e2 d2) ?_ | refine ar_in (by omega) (by omega) ?_ | refine ob (by omega) ?_) <;> conv => whnf)
    exact lpn (i + 1) (by omega) (by omega) rfl
  · exact ⟨rfl, rfl⟩
theorem eqShapeS_c (v w : Value) (l : List Shp) (h : Heap) (hv : Row 3 ShpR h v l) (hw : Row 3 ShpR h w l) : Pure Tryz.prog 194 [v, w] h (.bool true) := by
  have f := hv.len
  obtain ⟨p, c, rfl, hc, hn⟩ := f
  have f := hw.len
  obtain ⟨q, d, rfl, hd, _⟩ := f
  refine pur Tryz.sigOk Tryz.func194 Tryz.F194 Tryz.ok194 rfl ?_
  conv => whnf
  refine selNPf (by omega) ?_
  conv => whnf
  refine lps [0, 1, 5] [] (fun i : Nat => i ≤ l.length) (fun i => l.length - i)
    (fun i => ([.v (.slice p l.length c), .v (.slice q l.length d), .v (.int .i64 i)], [], h)) 0 (Nat.zero_le _) rfl ?_
  intro i hi
  conv => whnf
  refine selP (fun g => ?_) (fun g => ?_)
  all_goals conv => whnf
  · have hil : i < l.length := by omega
    have e := hv.get hil
    obtain ⟨b, off, vs, hp, e1, e2⟩ := e
    have e := hw.get hil
    obtain ⟨b', off', ws, hq, d1, d2⟩ := e
    have e2' := e2
    have d2' := d2
    obtain ⟨_, _, rfl, _⟩ := e2'
    obtain ⟨_, _, rfl, _⟩ := d2'
    repeat' ((first | refine ptr' hp ?_ | refine ptr' hq ?_ | refine ldn e1 ?_ | refine ldn d1 ?_ | refine callX_p (eqShape_c _ _ _ h e2 d2) ?_ | refine call_p (eqShape_c _ _ _ h e2 d2) ?_ | refine ar_in (by omega) (by omega) ?_ | refine ob (by omega) ?_) <;> conv => whnf)
    exact lpn (i + 1) (by omega) (by omega) rfl
  · exact ⟨rfl, rfl⟩
theorem eqMethod_c (x y : List Value) (a : Mth) (h : Heap) (hv : MthR h x a) (hw : MthR h y a) : Pure Tryz.prog 114 [.agg ⟨x⟩, .agg ⟨y⟩] h (.bool true) := by
  obtain ⟨_, _, _, _, rfl, _, _, _, _, v1, v2, v3, v4⟩ := hv
  obtain ⟨_, _, _, _, rfl, _, _, _, _, w1, w2, w3, w4⟩ := hw
  refine pur Tryz.sigOk Tryz.func114 Tryz.F114 Tryz.ok114 rfl ?_
  conv => whnf
  repeat' ((first | exact ⟨rfl, rfl⟩ | refine selNPf rfl ?_ | refine call_p (eqIntS_c _ _ _ h (intQ v1) (intQ w1)) ?_ | refine call_p (eqInsS_c _ _ _ h (v2) (w2)) ?_ | refine call_p (eqShapeS_c _ _ _ h (v3) (w3)) ?_ | refine call_p (eqCatchS_c _ _ _ h (v4) (w4)) ?_ | refine selB (fun g => ?_) (fun g => absurd g (by simp)) | refine selNB (fun g => absurd g (by simp)) (fun g => ?_)) <;> conv => whnf)
theorem eqMethodS_c (v w : Value) (l : List Mth) (h : Heap) (hv : Row 8 MthR h v l) (hw : Row 8 MthR h w l) : Pure Tryz.prog 55 [v, w] h (.bool true) := by
  have f := hv.len
  obtain ⟨p, c, rfl, hc, hn⟩ := f
  have f := hw.len
  obtain ⟨q, d, rfl, hd, _⟩ := f
  refine pur Tryz.sigOk Tryz.func55 Tryz.F55 Tryz.ok55 rfl ?_
  conv => whnf
  refine selNPf (by omega) ?_
  conv => whnf
  refine lps [0, 1, 5] [] (fun i : Nat => i ≤ l.length) (fun i => l.length - i)
    (fun i => ([.v (.slice p l.length c), .v (.slice q l.length d), .v (.int .i64 i)], [], h)) 0 (Nat.zero_le _) rfl ?_
  intro i hi
  conv => whnf
  refine selP (fun g => ?_) (fun g => ?_)
  all_goals conv => whnf
  · have hil : i < l.length := by omega
    have e := hv.get hil
    obtain ⟨b, off, vs, hp, e1, e2⟩ := e
    have e := hw.get hil
    obtain ⟨b', off', ws, hq, d1, d2⟩ := e
    have e2' := e2
    have d2' := d2
    obtain ⟨_, _, _, _, rfl, _⟩ := e2'
    obtain ⟨_, _, _, _, rfl, _⟩ := d2'
    repeat' ((first | refine ptr' hp ?_ | refine ptr' hq ?_ | refine ldn e1 ?_ | refine ldn d1 ?_ | refine callX_p (eqMethod_c _ _ _ h e2 d2) ?_ | refine call_p (eqMethod_c _ _ _ h e2 d2) ?_ | refine ar_in (by omega) (by omega) ?_ | refine ob (by omega) ?_) <;> conv => whnf)
    exact lpn (i + 1) (by omega) (by omega) rfl
  · exact ⟨rfl, rfl⟩
theorem eqUnit_c (x y : List Value) (a : Unt) (h : Heap) (hv : UntR h x a) (hw : UntR h y a) : Pure Tryz.prog 19 [.agg ⟨x⟩, .agg ⟨y⟩] h (.bool true) := by
  obtain ⟨_, _, rfl, v1, v2⟩ := hv
  obtain ⟨_, _, rfl, w1, w2⟩ := hw
  refine pur Tryz.sigOk Tryz.func19 Tryz.F19 Tryz.ok19 rfl ?_
  conv => whnf
  repeat' ((first | exact ⟨rfl, rfl⟩ | refine selNPf rfl ?_ | refine call_p (eqClassS_c _ _ _ h (v1) (w1)) ?_ | refine call_p (eqMethodS_c _ _ _ h (v2) (w2)) ?_ | refine selB (fun g => ?_) (fun g => absurd g (by simp)) | refine selNB (fun g => absurd g (by simp)) (fun g => ?_)) <;> conv => whnf)
theorem eqVal_c (x y : List Value) (a : Vl) (h : Heap) (hv : VlQ h x a) (hw : VlQ h y a) : Pure Tryz.prog 53 [.agg ⟨x⟩, .agg ⟨y⟩] h (.bool true) := by
  obtain rfl := hv
  obtain rfl := hw
  refine pur Tryz.sigOk Tryz.func53 Tryz.F53 Tryz.ok53 rfl ?_
  conv => whnf
  repeat' ((first | exact ⟨rfl, rfl⟩ | refine selNPf rfl ?_ | refine selB (fun g => ?_) (fun g => absurd g (by simp)) | refine selNB (fun g => absurd g (by simp)) (fun g => ?_)) <;> conv => whnf)
theorem eqValS_c (v w : Value) (l : List Vl) (h : Heap) (hv : Row 2 VlQ h v l) (hw : Row 2 VlQ h w l) : Pure Tryz.prog 192 [v, w] h (.bool true) := by
  have f := hv.len
  obtain ⟨p, c, rfl, hc, hn⟩ := f
  have f := hw.len
  obtain ⟨q, d, rfl, hd, _⟩ := f
  refine pur Tryz.sigOk Tryz.func192 Tryz.F192 Tryz.ok192 rfl ?_
  conv => whnf
  refine selNPf (by omega) ?_
  conv => whnf
  refine lps [0, 1, 5] [] (fun i : Nat => i ≤ l.length) (fun i => l.length - i)
    (fun i => ([.v (.slice p l.length c), .v (.slice q l.length d), .v (.int .i64 i)], [], h)) 0 (Nat.zero_le _) rfl ?_
  intro i hi
  conv => whnf
  refine selP (fun g => ?_) (fun g => ?_)
  all_goals conv => whnf
  · have hil : i < l.length := by omega
    have e := hv.get hil
    obtain ⟨b, off, vs, hp, e1, e2⟩ := e
    have e := hw.get hil
    obtain ⟨b', off', ws, hq, d1, d2⟩ := e
    have e2' := e2
    have d2' := d2
    obtain rfl := e2'
    obtain rfl := d2'
    repeat' ((first | refine ptr' hp ?_ | refine ptr' hq ?_ | refine ldn e1 ?_ | refine ldn d1 ?_ | refine callX_p (eqVal_c _ _ _ h e2 d2) ?_ | refine call_p (eqVal_c _ _ _ h e2 d2) ?_ | refine ar_in (by omega) (by omega) ?_ | refine ob (by omega) ?_) <;> conv => whnf)
    exact lpn (i + 1) (by omega) (by omega) rfl
  · exact ⟨rfl, rfl⟩
theorem eqObj_c (x y : List Value) (a : Ob) (h : Heap) (hv : ObQ h x a) (hw : ObQ h y a) : Pure Tryz.prog 111 [.agg ⟨x⟩, .agg ⟨y⟩] h (.bool true) := by
  obtain ⟨_, rfl, v1⟩ := hv
  obtain ⟨_, rfl, w1⟩ := hw
  refine pur Tryz.sigOk Tryz.func111 Tryz.F111 Tryz.ok111 rfl ?_
  conv => whnf
  repeat' ((first | exact ⟨rfl, rfl⟩ | refine selNPf rfl ?_ | refine call_p (eqValS_c _ _ _ h (v1) (w1)) ?_ | refine selB (fun g => ?_) (fun g => absurd g (by simp)) | refine selNB (fun g => absurd g (by simp)) (fun g => ?_)) <;> conv => whnf)
theorem eqObjS_c (v w : Value) (l : List Ob) (h : Heap) (hv : Row 2 ObQ h v l) (hw : Row 2 ObQ h w l) : Pure Tryz.prog 50 [v, w] h (.bool true) := by
  have f := hv.len
  obtain ⟨p, c, rfl, hc, hn⟩ := f
  have f := hw.len
  obtain ⟨q, d, rfl, hd, _⟩ := f
  refine pur Tryz.sigOk Tryz.func50 Tryz.F50 Tryz.ok50 rfl ?_
  conv => whnf
  refine selNPf (by omega) ?_
  conv => whnf
  refine lps [0, 1, 5] [] (fun i : Nat => i ≤ l.length) (fun i => l.length - i)
    (fun i => ([.v (.slice p l.length c), .v (.slice q l.length d), .v (.int .i64 i)], [], h)) 0 (Nat.zero_le _) rfl ?_
  intro i hi
  conv => whnf
  refine selP (fun g => ?_) (fun g => ?_)
  all_goals conv => whnf
  · have hil : i < l.length := by omega
    have e := hv.get hil
    obtain ⟨b, off, vs, hp, e1, e2⟩ := e
    have e := hw.get hil
    obtain ⟨b', off', ws, hq, d1, d2⟩ := e
    have e2' := e2
    have d2' := d2
    obtain ⟨_, rfl, _⟩ := e2'
    obtain ⟨_, rfl, _⟩ := d2'
    repeat' ((first | refine ptr' hp ?_ | refine ptr' hq ?_ | refine ldn e1 ?_ | refine ldn d1 ?_ | refine callX_p (eqObj_c _ _ _ h e2 d2) ?_ | refine call_p (eqObj_c _ _ _ h e2 d2) ?_ | refine ar_in (by omega) (by omega) ?_ | refine ob (by omega) ?_) <;> conv => whnf)
    exact lpn (i + 1) (by omega) (by omega) rfl
  · exact ⟨rfl, rfl⟩
theorem eqFrame_c (x y : List Value) (a : Frm) (h : Heap) (hv : FrmQ h x a) (hw : FrmQ h y a) : Pure Tryz.prog 112 [.agg ⟨x⟩, .agg ⟨y⟩] h (.bool true) := by
  obtain ⟨_, _, rfl, v1, v2⟩ := hv
  obtain ⟨_, _, rfl, w1, w2⟩ := hw
  refine pur Tryz.sigOk Tryz.func112 Tryz.F112 Tryz.ok112 rfl ?_
  conv => whnf
  repeat' ((first | exact ⟨rfl, rfl⟩ | refine selNPf rfl ?_ | refine call_p (eqValS_c _ _ _ h (v1) (w1)) ?_ | refine call_p (eqValS_c _ _ _ h (v2) (w2)) ?_ | refine selB (fun g => ?_) (fun g => absurd g (by simp)) | refine selNB (fun g => absurd g (by simp)) (fun g => ?_)) <;> conv => whnf)
theorem eqFrameS_c (v w : Value) (l : List Frm) (h : Heap) (hv : Row 4 FrmQ h v l) (hw : Row 4 FrmQ h w l) : Pure Tryz.prog 51 [v, w] h (.bool true) := by
  have f := hv.len
  obtain ⟨p, c, rfl, hc, hn⟩ := f
  have f := hw.len
  obtain ⟨q, d, rfl, hd, _⟩ := f
  refine pur Tryz.sigOk Tryz.func51 Tryz.F51 Tryz.ok51 rfl ?_
  conv => whnf
  refine selNPf (by omega) ?_
  conv => whnf
  refine lps [0, 1, 5] [] (fun i : Nat => i ≤ l.length) (fun i => l.length - i)
    (fun i => ([.v (.slice p l.length c), .v (.slice q l.length d), .v (.int .i64 i)], [], h)) 0 (Nat.zero_le _) rfl ?_
  intro i hi
  conv => whnf
  refine selP (fun g => ?_) (fun g => ?_)
  all_goals conv => whnf
  · have hil : i < l.length := by omega
    have e := hv.get hil
    obtain ⟨b, off, vs, hp, e1, e2⟩ := e
    have e := hw.get hil
    obtain ⟨b', off', ws, hq, d1, d2⟩ := e
    have e2' := e2
    have d2' := d2
    obtain ⟨_, _, rfl, _⟩ := e2'
    obtain ⟨_, _, rfl, _⟩ := d2'
    repeat' ((first | refine ptr' hp ?_ | refine ptr' hq ?_ | refine ldn e1 ?_ | refine ldn d1 ?_ | refine callX_p (eqFrame_c _ _ _ h e2 d2) ?_ | refine call_p (eqFrame_c _ _ _ h e2 d2) ?_ | refine ar_in (by omega) (by omega) ?_ | refine ob (by omega) ?_) <;> conv => whnf)
    exact lpn (i + 1) (by omega) (by omega) rfl
  · exact ⟨rfl, rfl⟩
theorem eqMach_c (x y : List Value) (a : Mch) (h : Heap) (hv : MchQ h x a) (hw : MchQ h y a) : Pure Tryz.prog 18 [.agg ⟨x⟩, .agg ⟨y⟩] h (.bool true) := by
  obtain ⟨vo, vf, vs, rfl, v1, v2, v3⟩ := hv
  obtain ⟨wo, wf, ws, rfl, w1, w2, w3⟩ := hw
  unfold mcells
  refine pur Tryz.sigOk Tryz.func18 Tryz.F18 Tryz.ok18 rfl ?_
  conv => whnf
  repeat' ((first | exact ⟨rfl, rfl⟩ | refine selNPf rfl ?_ | refine call_p (eqObjS_c _ _ _ h v1 w1) ?_ | refine call_p (eqFrameS_c _ _ _ h v2 w2) ?_ | refine call_p (eqIntS_c _ _ _ h v3 w3) ?_ | refine call_p (eqVal_c [.bool a.out.ref, .int .i64 a.out.n] [.bool a.out.ref, .int .i64 a.out.n] a.out h rfl rfl) ?_) <;> conv => whnf)
end Go.Proofs
namespace Go.Proofs
open Go.Vc
set_option maxRecDepth 100000
set_option maxHeartbeats 4000000
theorem markIntS_c (v : Value) (l : List Int) (B : List Nat) (h : Heap) (ho : OwnI h v l B) (nd : Nd B) (k : Int) (hk : 0 ≤ k ∧ k ≤ 9000000000000000000) (ht : T20 l.length) : Rets Tryz.prog 60 [v, .int .i64 k] h (MarkR (fun h l B => OwnI h v l B ∧ T20 l.length) (HeldL HeldI) k 1048576 B h) := by
  have ho := own_said ho
  have f := ho.form
  obtain ⟨p, c, rfl, hc⟩ := f
  unfold T20 at ht
  refine rets Tryz.sigOk Tryz.func60 Tryz.F60 Tryz.ok60 rfl ?_
  conv => whnf
  refine lps [0, 1, 5] [] (fun s : Nat × Int × List Int × List Int × Heap => s.1 + s.2.2.2.1.length = l.length ∧ s.2.2.1.length = s.1 ∧ k ≤ s.2.1 ∧ s.2.1 ≤ k + s.1 * 1 ∧ Mk OwnN 1 HeldI h s.2.2.2.2 (.slice p l.length c) k s.2.2.1 s.2.1 s.2.2.2.1 B ∧ (∀ a ∈ s.2.2.1, Any a) ∧ ∀ a ∈ s.2.2.2.1, Any a) (fun s => l.length - s.1)
    (fun s => ([.v (.slice p l.length c), .v (.int .i64 s.2.1), .v (.int .i64 s.1)], [], s.2.2.2.2)) (0, k, [], l, h) ⟨by simp, rfl, by simp only; omega, by simp only; omega, Mk.start ho, by simp, fun _ _ => trivial⟩ rfl ?_
  rintro ⟨i, k0, l1, l2, h0⟩ ⟨hi, hl1, q0, q1, hM, ti1, ti2⟩
  simp only at hi hl1 q0 q1 hM ti1 ti2 ⊢
  conv => whnf
  refine selP (fun g => ?_) (fun g => ?_)
  all_goals conv => whnf
  · have e : ∃ a t, l2 = a :: t := by
      cases l2 with
      | nil => simp at hi; omega
      | cons a t => exact ⟨a, t, rfl⟩
    obtain ⟨a, lr, rfl⟩ := e
    have e := hM.at keptN nd
    obtain ⟨b, c0, x, pre, post, ty, Bi, e, cu0, hp, hx, hR, hbi, ndi, reb⟩ := e
    simp only [Value.slice.injEq] at e
    obtain ⟨hq, _, _⟩ := e
    have ta := ti2 a (by simp)
    have tr : ∀ a ∈ lr, Any a := fun a ha => ti2 a (by simp [ha])
    simp only [List.length_cons] at hi
    obtain ⟨rfl, rfl⟩ := hR
    refine ob (by omega) ?_
    conv => whnf
    refine ptr' hq ?_
    conv => whnf
    refine cu0.st (i := 0) (by dsimp only; omega) (Nat.le_of_ble_eq_true rfl) (fun h1 cu1 kp1 => ?_)
    conv => whnf
    refine ar_in (by omega) (by omega) ?_
    conv => whnf
    refine ar_in (by omega) (by omega) ?_
    conv => whnf
    have nm := reb h1 _ k0 (k0 + 1) cu1 rfl ⟨rfl, rfl⟩ ⟨rfl, rfl⟩
    exact lpn (i + 1, k0 + 1, l1 ++ [k0], lr, h1) ⟨by simp only; omega, by simp [hl1], by simp only; omega, by simp only; omega, nm, fun y hy => (List.mem_append.1 hy).elim (ti1 y) (fun hy => by rw [List.mem_singleton.1 hy]; exact trivial), tr⟩ (by simp only; omega) rfl
  · have e : l2 = [] := List.eq_nil_of_length_eq_zero (by omega)
    subst e
    have own := hM.own
    rw [List.append_nil] at own
    exact ⟨l1, k0, rfl, q0, by omega, ⟨said_own own, by unfold T20; omega⟩, hM.held, hM.ev⟩
theorem markValS_c (v : Value) (l : List Vl) (B : List Nat) (h : Heap) (ho : OwnV h v l B) (nd : Nd B) (k : Int) (hk : 0 ≤ k ∧ k ≤ 9000000000000000000) (ht : T20 l.length) : Rets Tryz.prog 118 [v, .int .i64 k] h (MarkR (fun h l B => OwnV h v l B ∧ T20 l.length) (HeldL HeldVl) k 2097152 B h) := by
  have ho := own_vals ho
  have f := ho.form
  obtain ⟨p, c, rfl, hc⟩ := f
  unfold T20 at ht
  refine rets Tryz.sigOk Tryz.func118 Tryz.F118 Tryz.ok118 rfl ?_
  conv => whnf
  refine lps [0, 1, 5] [] (fun s : Nat × Int × List Vl × List Vl × Heap => s.1 + s.2.2.2.1.length = l.length ∧ s.2.2.1.length = s.1 ∧ k ≤ s.2.1 ∧ s.2.1 ≤ k + s.1 * 2 ∧ Mk OwnVl 2 HeldVl h s.2.2.2.2 (.slice p l.length c) k s.2.2.1 s.2.1 s.2.2.2.1 B ∧ (∀ a ∈ s.2.2.1, Any a) ∧ ∀ a ∈ s.2.2.2.1, Any a) (fun s => l.length - s.1)
    (fun s => ([.v (.slice p l.length c), .v (.int .i64 s.2.1), .v (.int .i64 s.1)], [], s.2.2.2.2)) (0, k, [], l, h) ⟨by simp, rfl, by simp only; omega, by simp only; omega, Mk.start ho, by simp, fun _ _ => trivial⟩ rfl ?_
  rintro ⟨i, k0, l1, l2, h0⟩ ⟨hi, hl1, q0, q1, hM, ti1, ti2⟩
  simp only at hi hl1 q0 q1 hM ti1 ti2 ⊢
  conv => whnf
  refine selP (fun g => ?_) (fun g => ?_)
  all_goals conv => whnf
  · have e : ∃ a t, l2 = a :: t := by
      cases l2 with
      | nil => simp at hi; omega
      | cons a t => exact ⟨a, t, rfl⟩
    obtain ⟨a, lr, rfl⟩ := e
    have e := hM.at keptVl nd
    obtain ⟨b, c0, x, pre, post, ty, Bi, e, cu0, hp, hx, hR, hbi, ndi, reb⟩ := e
    simp only [Value.slice.injEq] at e
    obtain ⟨hq, _, _⟩ := e
    have ta := ti2 a (by simp)
    have tr : ∀ a ∈ lr, Any a := fun a ha => ti2 a (by simp [ha])
    simp only [List.length_cons] at hi
    obtain ⟨rfl, rfl⟩ := hR
    refine ob (by omega) ?_
    conv => whnf
    refine ob (by omega) ?_
    conv => whnf
    refine ptr' hq ?_
    conv => whnf
    refine cu0.st (i := 0) (by dsimp only; omega) (Nat.le_of_ble_eq_true rfl) (fun h1 cu1 kp1 => ?_)
    conv => whnf
    refine ar_in (by omega) (by omega) ?_
    conv => whnf
    refine ob (by omega) ?_
    conv => whnf
    refine ptr' hq ?_
    conv => whnf
    refine cu1.st (i := 1) (by dsimp only; omega) (Nat.le_of_ble_eq_true rfl) (fun h2 cu2 kp2 => ?_)
    conv => whnf
    refine ar_in (by omega) (by omega) ?_
    conv => whnf
    refine ar_in (by omega) (by omega) ?_
    conv => whnf
    have nm := reb h2 _ ⟨mark3 (k0), k0 + 1⟩ (k0 + 1 + 1) cu2 rfl ⟨rfl, rfl⟩ ⟨rfl, rfl, rfl⟩
    exact lpn (i + 1, k0 + 1 + 1, l1 ++ [⟨mark3 (k0), k0 + 1⟩], lr, h2) ⟨by simp only; omega, by simp [hl1], by simp only; omega, by simp only; omega, nm, fun y hy => (List.mem_append.1 hy).elim (ti1 y) (fun hy => by rw [List.mem_singleton.1 hy]; exact trivial), tr⟩ (by simp only; omega) rfl
  · have e : l2 = [] := List.eq_nil_of_length_eq_zero (by omega)
    subst e
    have own := hM.own
    rw [List.append_nil] at own
    exact ⟨l1, k0, rfl, q0, by omega, ⟨vals_own own, by unfold T20; omega⟩, hM.held, hM.ev⟩
theorem markInsS_c (v : Value) (l : List Ins) (B : List Nat) (h : Heap) (ho : OwnL OwnIns 3 h v l B) (nd : Nd B) (k : Int) (hk : 0 ≤ k ∧ k ≤ 9000000000000000000) (ht : T20 l.length) : Rets Tryz.prog 115 [v, .int .i64 k] h (MarkR (fun h l B => OwnL OwnIns 3 h v l B ∧ T20 l.length) (HeldL Nil) k 3145728 B h) := by
  have ho := ho
  have f := ho.form
  obtain ⟨p, c, rfl, hc⟩ := f
  unfold T20 at ht
  refine rets Tryz.sigOk Tryz.func115 Tryz.F115 Tryz.ok115 rfl ?_
  conv => whnf
  refine lps [0, 1, 5] [] (fun s : Nat × Int × List Ins × List Ins × Heap => s.1 + s.2.2.2.1.length = l.length ∧ s.2.2.1.length = s.1 ∧ k ≤ s.2.1 ∧ s.2.1 ≤ k + s.1 * 3 ∧ Mk OwnIns 3 Nil h s.2.2.2.2 (.slice p l.length c) k s.2.2.1 s.2.1 s.2.2.2.1 B ∧ (∀ a ∈ s.2.2.1, Any a) ∧ ∀ a ∈ s.2.2.2.1, Any a) (fun s => l.length - s.1)
    (fun s => ([.v (.slice p l.length c), .v (.int .i64 s.2.1), .v (.int .i64 s.1)], [], s.2.2.2.2)) (0, k, [], l, h) ⟨by simp, rfl, by simp only; omega, by simp only; omega, Mk.start ho, by simp, fun _ _ => trivial⟩ rfl ?_
  rintro ⟨i, k0, l1, l2, h0⟩ ⟨hi, hl1, q0, q1, hM, ti1, ti2⟩
  simp only at hi hl1 q0 q1 hM ti1 ti2 ⊢
  conv => whnf
  refine selP (fun g => ?_) (fun g => ?_)
  all_goals conv => whnf
  · have e : ∃ a t, l2 = a :: t := by
      cases l2 with
      | nil => simp at hi; omega
      | cons a t => exact ⟨a, t, rfl⟩
    obtain ⟨a, lr, rfl⟩ := e
    have e := hM.at keptIns nd
    obtain ⟨b, c0, x, pre, post, ty, Bi, e, cu0, hp, hx, hR, hbi, ndi, reb⟩ := e
    simp only [Value.slice.injEq] at e
    obtain ⟨hq, _, _⟩ := e
    have ta := ti2 a (by simp)
    have tr : ∀ a ∈ lr, Any a := fun a ha => ti2 a (by simp [ha])
    simp only [List.length_cons] at hi
    obtain ⟨rfl, rfl⟩ := hR
    refine ob (by omega) ?_
    conv => whnf
    refine ptr' hq ?_
    conv => whnf
    refine cu0.st (i := 0) (by dsimp only; omega) (Nat.le_of_ble_eq_true rfl) (fun h1 cu1 kp1 => ?_)
    conv => whnf
    refine ar_in (by omega) (by omega) ?_
    conv => whnf
    refine ob (by omega) ?_
    conv => whnf
    refine ptr' hq ?_
    conv => whnf
    refine cu1.st (i := 1) (by dsimp only; omega) (Nat.le_of_ble_eq_true rfl) (fun h2 cu2 kp2 => ?_)
    conv => whnf
    refine ar_in (by omega) (by omega) ?_
    conv => whnf
    refine ob (by omega) ?_
    conv => whnf
    refine ptr' hq ?_
    conv => whnf
    refine cu2.st (i := 2) (by dsimp only; omega) (Nat.le_of_ble_eq_true rfl) (fun h3 cu3 kp3 => ?_)
    conv => whnf
    refine ar_in (by omega) (by omega) ?_
    conv => whnf
    refine ar_in (by omega) (by omega) ?_
    conv => whnf
    have nm := reb h3 _ ⟨k0, k0 + 1, k0 + 1 + 1⟩ (k0 + 1 + 1 + 1) cu3 rfl ⟨rfl, rfl⟩ trivial
    exact lpn (i + 1, k0 + 1 + 1 + 1, l1 ++ [⟨k0, k0 + 1, k0 + 1 + 1⟩], lr, h3) ⟨by simp only; omega, by simp [hl1], by simp only; omega, by simp only; omega, nm, fun y hy => (List.mem_append.1 hy).elim (ti1 y) (fun hy => by rw [List.mem_singleton.1 hy]; exact trivial), tr⟩ (by simp only; omega) rfl
  · have e : l2 = [] := List.eq_nil_of_length_eq_zero (by omega)
    subst e
    have own := hM.own
    rw [List.append_nil] at own
    exact ⟨l1, k0, rfl, q0, by omega, ⟨own, by unfold T20; omega⟩, hM.held, hM.ev⟩
theorem markCatchS_c (v : Value) (l : List Ctc) (B : List Nat) (h : Heap) (ho : OwnL OwnCtc 4 h v l B) (nd : Nd B) (k : Int) (hk : 0 ≤ k ∧ k ≤ 9000000000000000000) (ht : T20 l.length) : Rets Tryz.prog 117 [v, .int .i64 k] h (MarkR (fun h l B => OwnL OwnCtc 4 h v l B ∧ T20 l.length) (HeldL Nil) k 4194304 B h) := by
  have ho := ho
  have f := ho.form
  obtain ⟨p, c, rfl, hc⟩ := f
  unfold T20 at ht
  refine rets Tryz.sigOk Tryz.func117 Tryz.F117 Tryz.ok117 rfl ?_
  conv => whnf
  refine lps [0, 1, 5] [] (fun s : Nat × Int × List Ctc × List Ctc × Heap => s.1 + s.2.2.2.1.length = l.length ∧ s.2.2.1.length = s.1 ∧ k ≤ s.2.1 ∧ s.2.1 ≤ k + s.1 * 4 ∧ Mk OwnCtc 4 Nil h s.2.2.2.2 (.slice p l.length c) k s.2.2.1 s.2.1 s.2.2.2.1 B ∧ (∀ a ∈ s.2.2.1, Any a) ∧ ∀ a ∈ s.2.2.2.1, Any a) (fun s => l.length - s.1)
    (fun s => ([.v (.slice p l.length c), .v (.int .i64 s.2.1), .v (.int .i64 s.1)], [], s.2.2.2.2)) (0, k, [], l, h) ⟨by simp, rfl, by simp only; omega, by simp only; omega, Mk.start ho, by simp, fun _ _ => trivial⟩ rfl ?_
  rintro ⟨i, k0, l1, l2, h0⟩ ⟨hi, hl1, q0, q1, hM, ti1, ti2⟩
  simp only at hi hl1 q0 q1 hM ti1 ti2 ⊢
  conv => whnf
  refine selP (fun g => ?_) (fun g => ?_)
  all_goals conv => whnf
  · have e : ∃ a t, l2 = a :: t := by
      cases l2 with
      | nil => simp at hi; omega
      | cons a t => exact ⟨a, t, rfl⟩
    obtain ⟨a, lr, rfl⟩ := e
    have e := hM.at keptCtc nd
    obtain ⟨b, c0, x, pre, post, ty, Bi, e, cu0, hp, hx, hR, hbi, ndi, reb⟩ := e
    simp only [Value.slice.injEq] at e
    obtain ⟨hq, _, _⟩ := e
    have ta := ti2 a (by simp)
    have tr : ∀ a ∈ lr, Any a := fun a ha => ti2 a (by simp [ha])
    simp only [List.length_cons] at hi
    obtain ⟨rfl, rfl⟩ := hR
    refine ob (by omega) ?_
    conv => whnf
    refine ptr' hq ?_
    conv => whnf
    refine cu0.st (i := 0) (by dsimp only; omega) (Nat.le_of_ble_eq_true rfl) (fun h1 cu1 kp1 => ?_)
    conv => whnf
    refine ar_in (by omega) (by omega) ?_
    conv => whnf
    refine ob (by omega) ?_
    conv => whnf
    refine ptr' hq ?_
    conv => whnf
    refine cu1.st (i := 1) (by dsimp only; omega) (Nat.le_of_ble_eq_true rfl) (fun h2 cu2 kp2 => ?_)
    conv => whnf
    refine ar_in (by omega) (by omega) ?_
    conv => whnf
    refine ob (by omega) ?_
    conv => whnf
    refine ptr' hq ?_
    conv => whnf
    refine cu2.st (i := 2) (by dsimp only; omega) (Nat.le_of_ble_eq_true rfl) (fun h3 cu3 kp3 => ?_)
    conv => whnf
    refine ar_in (by omega) (by omega) ?_
    conv => whnf
    refine ob (by omega) ?_
    conv => whnf
    refine ptr' hq ?_
    conv => whnf
    refine cu3.st (i := 3) (by dsimp only; omega) (Nat.le_of_ble_eq_true rfl) (fun h4 cu4 kp4 => ?_)
    conv => whnf
    refine ar_in (by omega) (by omega) ?_
    conv => whnf
    refine ar_in (by omega) (by omega) ?_
    conv => whnf
    have nm := reb h4 _ ⟨k0, k0 + 1, k0 + 1 + 1, k0 + 1 + 1 + 1⟩ (k0 + 1 + 1 + 1 + 1) cu4 rfl ⟨rfl, rfl⟩ trivial
    exact lpn (i + 1, k0 + 1 + 1 + 1 + 1, l1 ++ [⟨k0, k0 + 1, k0 + 1 + 1, k0 + 1 + 1 + 1⟩], lr, h4) ⟨by simp only; omega, by simp [hl1], by simp only; omega, by simp only; omega, nm, fun y hy => (List.mem_append.1 hy).elim (ti1 y) (fun hy => by rw [List.mem_singleton.1 hy]; exact trivial), tr⟩ (by simp only; omega) rfl
  · have e : l2 = [] := List.eq_nil_of_length_eq_zero (by omega)
    subst e
    have own := hM.own
    rw [List.append_nil] at own
    exact ⟨l1, k0, rfl, q0, by omega, ⟨own, by unfold T20; omega⟩, hM.held, hM.ev⟩
theorem markClassS_c (v : Value) (l : List Cls) (B : List Nat) (h : Heap) (ho : OwnL OwnCls 2 h v l B) (nd : Nd B) (k : Int) (hk : 0 ≤ k ∧ k ≤ 8000000000000000000) (ht : T20 l.length) (hT : ∀ a ∈ l, TinyC a) : Rets Tryz.prog 56 [v, .int .i64 k] h (MarkR (fun h l B => OwnL OwnCls 2 h v l B ∧ T20 l.length ∧ ∀ a ∈ l, TinyC a) (HeldL Nil) k 1099512676352 B h) := by
  have ho := ho
  have f := ho.form
  obtain ⟨p, c, rfl, hc⟩ := f
  unfold T20 at ht
  refine rets Tryz.sigOk Tryz.func56 Tryz.F56 Tryz.ok56 rfl ?_
  conv => whnf
  refine lps [0, 1, 5] [] (fun s : Nat × Int × List Cls × List Cls × Heap => s.1 + s.2.2.2.1.length = l.length ∧ s.2.2.1.length = s.1 ∧ k ≤ s.2.1 ∧ s.2.1 ≤ k + s.1 * 1048577 ∧ Mk OwnCls 2 Nil h s.2.2.2.2 (.slice p l.length c) k s.2.2.1 s.2.1 s.2.2.2.1 B ∧ (∀ a ∈ s.2.2.1, TinyC a) ∧ ∀ a ∈ s.2.2.2.1, TinyC a) (fun s => l.length - s.1)
    (fun s => ([.v (.slice p l.length c), .v (.int .i64 s.2.1), .v (.int .i64 s.1)], [], s.2.2.2.2)) (0, k, [], l, h) ⟨by simp, rfl, by simp only; omega, by simp only; omega, Mk.start ho, by simp, hT⟩ rfl ?_
  rintro ⟨i, k0, l1, l2, h0⟩ ⟨hi, hl1, q0, q1, hM, ti1, ti2⟩
  simp only at hi hl1 q0 q1 hM ti1 ti2 ⊢
  conv => whnf
  refine selP (fun g => ?_) (fun g => ?_)
  all_goals conv => whnf
  · have e : ∃ a t, l2 = a :: t := by
      cases l2 with
      | nil => simp at hi; omega
      | cons a t => exact ⟨a, t, rfl⟩
    obtain ⟨a, lr, rfl⟩ := e
    have e := hM.at keptCls nd
    obtain ⟨b, c0, x, pre, post, ty, Bi, e, cu0, hp, hx, hR, hbi, ndi, reb⟩ := e
    simp only [Value.slice.injEq] at e
    obtain ⟨hq, _, _⟩ := e
    have ta := ti2 a (by simp)
    have tr : ∀ a ∈ lr, TinyC a := fun a ha => ti2 a (by simp [ha])
    simp only [List.length_cons] at hi
    obtain ⟨y1, rfl, z1⟩ := hR
    have f := z1.form
    obtain ⟨_, _, rfl, _⟩ := f
    have nbBi : b ∉ Bi := fun hm => hbi (by simp [hm])
    have sbBi : ∀ c ∈ Bi, c ∈ Bi := fun c hm => by simp [hm]
    have ndBi : Nd Bi := fun c => by
      have := ndi c
      try simp only [List.count_append] at this
      omega
    refine ob (by omega) ?_
    conv => whnf
    refine ptr' hq ?_
    conv => whnf
    refine cu0.st (i := 0) (by dsimp only; omega) (Nat.le_of_ble_eq_true rfl) (fun h1 cu1 kp1 => ?_)
    conv => whnf
    refine ar_in (by omega) (by omega) ?_
    conv => whnf
    have w1z1 := z1.keep (kp1 _ nbBi)
    refine ob (by omega) ?_
    conv => whnf
    refine ptr' hq ?_
    conv => whnf
    refine ld (rd_mid cu1.cell (i := 1) (by dsimp only; omega) rfl) ?_
    conv => whnf
    refine call_r (markIntS_c _ _ Bi _ w1z1 ndBi (k0 + 1) ⟨by omega, by omega⟩ ta) ?_
    rintro v2 h2 ⟨a2, k2, rfl, x2, y2, z2, H2, ev2⟩
    conv => whnf
    have cu2 := cu1.call ev2 nbBi sbBi
    refine ar_in (by omega) (by omega) ?_
    conv => whnf
    have nm := reb h2 _ ⟨k0, a2⟩ (k2) cu2 rfl ⟨_, rfl, z2.1⟩ trivial
    exact lpn (i + 1, k2, l1 ++ [⟨k0, a2⟩], lr, h2) ⟨by simp only; omega, by simp [hl1], by simp only; omega, by simp only; omega, nm, fun y hy => (List.mem_append.1 hy).elim (ti1 y) (fun hy => by rw [List.mem_singleton.1 hy]; exact z2.2), tr⟩ (by simp only; omega) rfl
  · have e : l2 = [] := List.eq_nil_of_length_eq_zero (by omega)
    subst e
    have own := hM.own
    rw [List.append_nil] at own
    exact ⟨l1, k0, rfl, q0, by omega, ⟨own, by unfold T20; omega, ti1⟩, hM.held, hM.ev⟩
theorem markShapeS_c (v : Value) (l : List Shp) (B : List Nat) (h : Heap) (ho : OwnL OwnShp 3 h v l B) (nd : Nd B) (k : Int) (hk : 0 ≤ k ∧ k ≤ 8000000000000000000) (ht : T20 l.length) (hT : ∀ a ∈ l, TinyS a) : Rets Tryz.prog 116 [v, .int .i64 k] h (MarkR (fun h l B => OwnL OwnShp 3 h v l B ∧ T20 l.length ∧ ∀ a ∈ l, TinyS a) (HeldL Nil) k 2199024304128 B h) := by
  have ho := ho
  have f := ho.form
  obtain ⟨p, c, rfl, hc⟩ := f
  unfold T20 at ht
  refine rets Tryz.sigOk Tryz.func116 Tryz.F116 Tryz.ok116 rfl ?_
  conv => whnf
  refine lps [0, 1, 5] [] (fun s : Nat × Int × List Shp × List Shp × Heap => s.1 + s.2.2.2.1.length = l.length ∧ s.2.2.1.length = s.1 ∧ k ≤ s.2.1 ∧ s.2.1 ≤ k + s.1 * 2097153 ∧ Mk OwnShp 3 Nil h s.2.2.2.2 (.slice p l.length c) k s.2.2.1 s.2.1 s.2.2.2.1 B ∧ (∀ a ∈ s.2.2.1, TinyS a) ∧ ∀ a ∈ s.2.2.2.1, TinyS a) (fun s => l.length - s.1)
    (fun s => ([.v (.slice p l.length c), .v (.int .i64 s.2.1), .v (.int .i64 s.1)], [], s.2.2.2.2)) (0, k, [], l, h) ⟨by simp, rfl, by simp only; omega, by simp only; omega, Mk.start ho, by simp, hT⟩ rfl ?_
  rintro ⟨i, k0, l1, l2, h0⟩ ⟨hi, hl1, q0, q1, hM, ti1, ti2⟩
  simp only at hi hl1 q0 q1 hM ti1 ti2 ⊢
  conv => whnf
  refine selP (fun g => ?_) (fun g => ?_)
  all_goals conv => whnf
  · have e : ∃ a t, l2 = a :: t := by
      cases l2 with
      | nil => simp at hi; omega
      | cons a t => exact ⟨a, t, rfl⟩
    obtain ⟨a, lr, rfl⟩ := e
    have e := hM.at keptShp nd
    obtain ⟨b, c0, x, pre, post, ty, Bi, e, cu0, hp, hx, hR, hbi, ndi, reb⟩ := e
    simp only [Value.slice.injEq] at e
    obtain ⟨hq, _, _⟩ := e
    have ta := ti2 a (by simp)
    have tr : ∀ a ∈ lr, TinyS a := fun a ha => ti2 a (by simp [ha])
    simp only [List.length_cons] at hi
    obtain ⟨y1, y2, B1, B2, rfl, z1, z2, rfl⟩ := hR
    have f := z1.form
    obtain ⟨_, _, rfl, _⟩ := f
    have nbB1 : b ∉ B1 := fun hm => hbi (by simp [hm])
    have sbB1 : ∀ c ∈ B1, c ∈ B1 ++ (B2) := fun c hm => by simp [hm]
    have f := z2.form
    obtain ⟨_, _, rfl, _⟩ := f
    have nbB2 : b ∉ B2 := fun hm => hbi (by simp [hm])
    have sbB2 : ∀ c ∈ B2, c ∈ B1 ++ (B2) := fun c hm => by simp [hm]
    have ndB1 : Nd B1 := fun c => by
      have := ndi c
      try simp only [List.count_append] at this
      omega
    have dB1B2 : ∀ c ∈ B1, c ∉ B2 := fun c h1 h2 => by
      have := ndi c
      have := List.count_pos_iff.2 h1
      have := List.count_pos_iff.2 h2
      simp only [List.count_append] at *
      omega
    have ndB2 : Nd B2 := fun c => by
      have := ndi c
      try simp only [List.count_append] at this
      omega
    have dB2B1 : ∀ c ∈ B2, c ∉ B1 := fun c h1 h2 => by
      have := ndi c
      have := List.count_pos_iff.2 h1
      have := List.count_pos_iff.2 h2
      simp only [List.count_append] at *
      omega
    refine ob (by omega) ?_
    conv => whnf
    refine ob (by omega) ?_
    conv => whnf
    refine ptr' hq ?_
    conv => whnf
    refine cu0.st (i := 0) (by dsimp only; omega) (Nat.le_of_ble_eq_true rfl) (fun h1 cu1 kp1 => ?_)
    conv => whnf
    refine ar_in (by omega) (by omega) ?_
    conv => whnf
    have w1z1 := z1.keep (kp1 _ nbB1)
    have w1z2 := z2.keep (kp1 _ nbB2)
    refine ob (by omega) ?_
    conv => whnf
    refine ptr' hq ?_
    conv => whnf
    refine ld (rd_mid cu1.cell (i := 1) (by dsimp only; omega) rfl) ?_
    conv => whnf
    refine call_r (markIntS_c _ _ B1 _ w1z1 ndB1 (k0 + 1) ⟨by omega, by omega⟩ ta.1) ?_
    rintro v2 h2 ⟨a2, k2, rfl, x2, y2, z2, H2, ev2⟩
    conv => whnf
    have cu2 := cu1.call ev2 nbB1 sbB1
    have w2z2 := w1z2.keep (ev2.keep dB2B1)
    refine ob (by omega) ?_
    conv => whnf
    refine ptr' hq ?_
    conv => whnf
    refine ld (rd_mid cu2.cell (i := 2) (by dsimp only; omega) rfl) ?_
    conv => whnf
    refine call_r (markIntS_c _ _ B2 _ w2z2 ndB2 (k2) ⟨by omega, by omega⟩ ta.2) ?_
    rintro v3 h3 ⟨a3, k3, rfl, x3, y3, z3, H3, ev3⟩
    conv => whnf
    have cu3 := cu2.call ev3 nbB2 sbB2
    have w3z1 := z2.1.keep (ev3.keep dB1B2)
    refine ar_in (by omega) (by omega) ?_
    conv => whnf
    have nm := reb h3 _ ⟨mark3 (k0), a2, a3⟩ (k3) cu3 rfl ⟨_, _, _, _, rfl, w3z1, z3.1, rfl⟩ trivial
    exact lpn (i + 1, k3, l1 ++ [⟨mark3 (k0), a2, a3⟩], lr, h3) ⟨by simp only; omega, by simp [hl1], by simp only; omega, by simp only; omega, nm, fun y hy => (List.mem_append.1 hy).elim (ti1 y) (fun hy => by rw [List.mem_singleton.1 hy]; exact ⟨z2.2, z3.2⟩), tr⟩ (by simp only; omega) rfl
  · have e : l2 = [] := List.eq_nil_of_length_eq_zero (by omega)
    subst e
    have own := hM.own
    rw [List.append_nil] at own
    exact ⟨l1, k0, rfl, q0, by omega, ⟨own, by unfold T20; omega, ti1⟩, hM.held, hM.ev⟩
theorem markObjS_c (v : Value) (l : List Ob) (B : List Nat) (h : Heap) (ho : OwnL OwnO 2 h v l B) (nd : Nd B) (k : Int) (hk : 0 ≤ k ∧ k ≤ 8000000000000000000) (ht : T20 l.length) (hT : ∀ a ∈ l, TinyO a) : Rets Tryz.prog 58 [v, .int .i64 k] h (MarkR (fun h l B => OwnL OwnO 2 h v l B ∧ T20 l.length ∧ ∀ a ∈ l, TinyO a) (HeldL HeldOb) k 2199024304128 B h) := by
  have ho := ho
  have f := ho.form
  obtain ⟨p, c, rfl, hc⟩ := f
  unfold T20 at ht
  refine rets Tryz.sigOk Tryz.func58 Tryz.F58 Tryz.ok58 rfl ?_
  conv => whnf
  refine lps [0, 1, 5] [] (fun s : Nat × Int × List Ob × List Ob × Heap => s.1 + s.2.2.2.1.length = l.length ∧ s.2.2.1.length = s.1 ∧ k ≤ s.2.1 ∧ s.2.1 ≤ k + s.1 * 2097153 ∧ Mk OwnO 2 HeldOb h s.2.2.2.2 (.slice p l.length c) k s.2.2.1 s.2.1 s.2.2.2.1 B ∧ (∀ a ∈ s.2.2.1, TinyO a) ∧ ∀ a ∈ s.2.2.2.1, TinyO a) (fun s => l.length - s.1)
    (fun s => ([.v (.slice p l.length c), .v (.int .i64 s.2.1), .v (.int .i64 s.1)], [], s.2.2.2.2)) (0, k, [], l, h) ⟨by simp, rfl, by simp only; omega, by simp only; omega, Mk.start ho, by simp, hT⟩ rfl ?_
  rintro ⟨i, k0, l1, l2, h0⟩ ⟨hi, hl1, q0, q1, hM, ti1, ti2⟩
  simp only at hi hl1 q0 q1 hM ti1 ti2 ⊢
  conv => whnf
  refine selP (fun g => ?_) (fun g => ?_)
  all_goals conv => whnf
  · have e : ∃ a t, l2 = a :: t := by
      cases l2 with
      | nil => simp at hi; omega
      | cons a t => exact ⟨a, t, rfl⟩
    obtain ⟨a, lr, rfl⟩ := e
    have e := hM.at keptO nd
    obtain ⟨b, c0, x, pre, post, ty, Bi, e, cu0, hp, hx, hR, hbi, ndi, reb⟩ := e
    simp only [Value.slice.injEq] at e
    obtain ⟨hq, _, _⟩ := e
    have ta := ti2 a (by simp)
    have tr : ∀ a ∈ lr, TinyO a := fun a ha => ti2 a (by simp [ha])
    simp only [List.length_cons] at hi
    obtain ⟨y1, rfl, z1⟩ := hR
    have f := z1.form
    obtain ⟨_, _, rfl, _⟩ := f
    have nbBi : b ∉ Bi := fun hm => hbi (by simp [hm])
    have sbBi : ∀ c ∈ Bi, c ∈ Bi := fun c hm => by simp [hm]
    have ndBi : Nd Bi := fun c => by
      have := ndi c
      try simp only [List.count_append] at this
      omega
    refine ob (by omega) ?_
    conv => whnf
    refine ptr' hq ?_
    conv => whnf
    refine cu0.st (i := 0) (by dsimp only; omega) (Nat.le_of_ble_eq_true rfl) (fun h1 cu1 kp1 => ?_)
    conv => whnf
    refine ar_in (by omega) (by omega) ?_
    conv => whnf
    have w1z1 := z1.keep (kp1 _ nbBi)
    refine ob (by omega) ?_
    conv => whnf
    refine ptr' hq ?_
    conv => whnf
    refine ld (rd_mid cu1.cell (i := 1) (by dsimp only; omega) rfl) ?_
    conv => whnf
    refine call_r (markValS_c _ _ Bi _ w1z1 ndBi (k0 + 1) ⟨by omega, by omega⟩ ta) ?_
    rintro v2 h2 ⟨a2, k2, rfl, x2, y2, z2, H2, ev2⟩
    conv => whnf
    have cu2 := cu1.call ev2 nbBi sbBi
    refine ar_in (by omega) (by omega) ?_
    conv => whnf
    have nm := reb h2 _ ⟨k0, a2⟩ (k2) cu2 rfl ⟨_, rfl, z2.1⟩ ⟨rfl, H2⟩
    exact lpn (i + 1, k2, l1 ++ [⟨k0, a2⟩], lr, h2) ⟨by simp only; omega, by simp [hl1], by simp only; omega, by simp only; omega, nm, fun y hy => (List.mem_append.1 hy).elim (ti1 y) (fun hy => by rw [List.mem_singleton.1 hy]; exact z2.2), tr⟩ (by simp only; omega) rfl
  · have e : l2 = [] := List.eq_nil_of_length_eq_zero (by omega)
    subst e
    have own := hM.own
    rw [List.append_nil] at own
    exact ⟨l1, k0, rfl, q0, by omega, ⟨own, by unfold T20; omega, ti1⟩, hM.held, hM.ev⟩
theorem markFrameS_c (v : Value) (l : List Frm) (B : List Nat) (h : Heap) (ho : OwnL OwnF 4 h v l B) (nd : Nd B) (k : Int) (hk : 0 ≤ k ∧ k ≤ 8000000000000000000) (ht : T20 l.length) (hT : ∀ a ∈ l, TinyF a) : Rets Tryz.prog 59 [v, .int .i64 k] h (MarkR (fun h l B => OwnL OwnF 4 h v l B ∧ T20 l.length ∧ ∀ a ∈ l, TinyF a) (HeldL HeldFr) k 4398048608256 B h) := by
  have ho := ho
  have f := ho.form
  obtain ⟨p, c, rfl, hc⟩ := f
  unfold T20 at ht
  refine rets Tryz.sigOk Tryz.func59 Tryz.F59 Tryz.ok59 rfl ?_
  conv => whnf
  refine lps [0, 1, 5] [] (fun s : Nat × Int × List Frm × List Frm × Heap => s.1 + s.2.2.2.1.length = l.length ∧ s.2.2.1.length = s.1 ∧ k ≤ s.2.1 ∧ s.2.1 ≤ k + s.1 * 4194306 ∧ Mk OwnF 4 HeldFr h s.2.2.2.2 (.slice p l.length c) k s.2.2.1 s.2.1 s.2.2.2.1 B ∧ (∀ a ∈ s.2.2.1, TinyF a) ∧ ∀ a ∈ s.2.2.2.1, TinyF a) (fun s => l.length - s.1)
    (fun s => ([.v (.slice p l.length c), .v (.int .i64 s.2.1), .v (.int .i64 s.1)], [], s.2.2.2.2)) (0, k, [], l, h) ⟨by simp, rfl, by simp only; omega, by simp only; omega, Mk.start ho, by simp, hT⟩ rfl ?_
  rintro ⟨i, k0, l1, l2, h0⟩ ⟨hi, hl1, q0, q1, hM, ti1, ti2⟩
  simp only at hi hl1 q0 q1 hM ti1 ti2 ⊢
  conv => whnf
  refine selP (fun g => ?_) (fun g => ?_)
  all_goals conv => whnf
  · have e : ∃ a t, l2 = a :: t := by
      cases l2 with
      | nil => simp at hi; omega
      | cons a t => exact ⟨a, t, rfl⟩
    obtain ⟨a, lr, rfl⟩ := e
    have e := hM.at keptF nd
    obtain ⟨b, c0, x, pre, post, ty, Bi, e, cu0, hp, hx, hR, hbi, ndi, reb⟩ := e
    simp only [Value.slice.injEq] at e
    obtain ⟨hq, _, _⟩ := e
    have ta := ti2 a (by simp)
    have tr : ∀ a ∈ lr, TinyF a := fun a ha => ti2 a (by simp [ha])
    simp only [List.length_cons] at hi
    obtain ⟨y1, y2, B1, B2, rfl, z1, z2, rfl⟩ := hR
    have f := z1.form
    obtain ⟨_, _, rfl, _⟩ := f
    have nbB1 : b ∉ B1 := fun hm => hbi (by simp [hm])
    have sbB1 : ∀ c ∈ B1, c ∈ B1 ++ (B2) := fun c hm => by simp [hm]
    have f := z2.form
    obtain ⟨_, _, rfl, _⟩ := f
    have nbB2 : b ∉ B2 := fun hm => hbi (by simp [hm])
    have sbB2 : ∀ c ∈ B2, c ∈ B1 ++ (B2) := fun c hm => by simp [hm]
    have ndB1 : Nd B1 := fun c => by
      have := ndi c
      try simp only [List.count_append] at this
      omega
    have dB1B2 : ∀ c ∈ B1, c ∉ B2 := fun c h1 h2 => by
      have := ndi c
      have := List.count_pos_iff.2 h1
      have := List.count_pos_iff.2 h2
      simp only [List.count_append] at *
      omega
    have ndB2 : Nd B2 := fun c => by
      have := ndi c
      try simp only [List.count_append] at this
      omega
    have dB2B1 : ∀ c ∈ B2, c ∉ B1 := fun c h1 h2 => by
      have := ndi c
      have := List.count_pos_iff.2 h1
      have := List.count_pos_iff.2 h2
      simp only [List.count_append] at *
      omega
    refine ob (by omega) ?_
    conv => whnf
    refine ptr' hq ?_
    conv => whnf
    refine cu0.st (i := 0) (by dsimp only; omega) (Nat.le_of_ble_eq_true rfl) (fun h1 cu1 kp1 => ?_)
    conv => whnf
    refine ar_in (by omega) (by omega) ?_
    conv => whnf
    have w1z1 := z1.keep (kp1 _ nbB1)
    have w1z2 := z2.keep (kp1 _ nbB2)
    refine ob (by omega) ?_
    conv => whnf
    refine ptr' hq ?_
    conv => whnf
    refine cu1.st (i := 1) (by dsimp only; omega) (Nat.le_of_ble_eq_true rfl) (fun h2 cu2 kp2 => ?_)
    conv => whnf
    refine ar_in (by omega) (by omega) ?_
    conv => whnf
    have w2z1 := w1z1.keep (kp2 _ nbB1)
    have w2z2 := w1z2.keep (kp2 _ nbB2)
    refine ob (by omega) ?_
    conv => whnf
    refine ptr' hq ?_
    conv => whnf
    refine ld (rd_mid cu2.cell (i := 2) (by dsimp only; omega) rfl) ?_
    conv => whnf
    refine call_r (markValS_c _ _ B1 _ w2z1 ndB1 (k0 + 1 + 1) ⟨by omega, by omega⟩ ta.1) ?_
    rintro v3 h3 ⟨a3, k3, rfl, x3, y3, z3, H3, ev3⟩
    conv => whnf
    have cu3 := cu2.call ev3 nbB1 sbB1
    have w3z2 := w2z2.keep (ev3.keep dB2B1)
    refine ob (by omega) ?_
    conv => whnf
    refine ptr' hq ?_
    conv => whnf
    refine ld (rd_mid cu3.cell (i := 3) (by dsimp only; omega) rfl) ?_
    conv => whnf
    refine call_r (markValS_c _ _ B2 _ w3z2 ndB2 (k3) ⟨by omega, by omega⟩ ta.2) ?_
    rintro v4 h4 ⟨a4, k4, rfl, x4, y4, z4, H4, ev4⟩
    conv => whnf
    have cu4 := cu3.call ev4 nbB2 sbB2
    have w4z1 := z3.1.keep (ev4.keep dB1B2)
    refine ar_in (by omega) (by omega) ?_
    conv => whnf
    have nm := reb h4 _ ⟨k0, k0 + 1, a3, a4⟩ (k4) cu4 rfl ⟨_, _, _, _, rfl, w4z1, z4.1, rfl⟩ ⟨rfl, rfl, _, H3, H4⟩
    exact lpn (i + 1, k4, l1 ++ [⟨k0, k0 + 1, a3, a4⟩], lr, h4) ⟨by simp only; omega, by simp [hl1], by simp only; omega, by simp only; omega, nm, fun y hy => (List.mem_append.1 hy).elim (ti1 y) (fun hy => by rw [List.mem_singleton.1 hy]; exact ⟨z3.2, z4.2⟩), tr⟩ (by simp only; omega) rfl
  · have e : l2 = [] := List.eq_nil_of_length_eq_zero (by omega)
    subst e
    have own := hM.own
    rw [List.append_nil] at own
    exact ⟨l1, k0, rfl, q0, by omega, ⟨own, by unfold T20; omega, ti1⟩, hM.held, hM.ev⟩
theorem markMethodS_c (v : Value) (l : List Mth) (B : List Nat) (h : Heap) (ho : OwnL OwnMth 8 h v l B) (nd : Nd B) (k : Int) (hk : 0 ≤ k ∧ k ≤ 1152921504606846976) (ht : T20 l.length) (hT : ∀ a ∈ l, TinyM a) : Rets Tryz.prog 57 [v, .int .i64 k] h (MarkR (fun h l B => OwnL OwnMth 8 h v l B ∧ T20 l.length ∧ ∀ a ∈ l, TinyM a) (HeldL Nil) k 2305852904822538240 B h) := by
  have ho := ho
  have f := ho.form
  obtain ⟨p, c, rfl, hc⟩ := f
  unfold T20 at ht
  refine rets Tryz.sigOk Tryz.func57 Tryz.F57 Tryz.ok57 rfl ?_
  conv => whnf
  refine lps [0, 1, 5] [] (fun s : Nat × Int × List Mth × List Mth × Heap => s.1 + s.2.2.2.1.length = l.length ∧ s.2.2.1.length = s.1 ∧ k ≤ s.2.1 ∧ s.2.1 ≤ k + s.1 * 2199032692740 ∧ Mk OwnMth 8 Nil h s.2.2.2.2 (.slice p l.length c) k s.2.2.1 s.2.1 s.2.2.2.1 B ∧ (∀ a ∈ s.2.2.1, TinyM a) ∧ ∀ a ∈ s.2.2.2.1, TinyM a) (fun s => l.length - s.1)
    (fun s => ([.v (.slice p l.length c), .v (.int .i64 s.2.1), .v (.int .i64 s.1)], [], s.2.2.2.2)) (0, k, [], l, h) ⟨by simp, rfl, by simp only; omega, by simp only; omega, Mk.start ho, by simp, hT⟩ rfl ?_
  rintro ⟨i, k0, l1, l2, h0⟩ ⟨hi, hl1, q0, q1, hM, ti1, ti2⟩
  simp only at hi hl1 q0 q1 hM ti1 ti2 ⊢
  conv => whnf
  refine selP (fun g => ?_) (fun g => ?_)
  all_goals conv => whnf
  · have e : ∃ a t, l2 = a :: t := by
      cases l2 with
      | nil => simp at hi; omega
      | cons a t => exact ⟨a, t, rfl⟩
    obtain ⟨a, lr, rfl⟩ := e
    have e := hM.at keptMth nd
    obtain ⟨b, c0, x, pre, post, ty, Bi, e, cu0, hp, hx, hR, hbi, ndi, reb⟩ := e
    simp only [Value.slice.injEq] at e
    obtain ⟨hq, _, _⟩ := e
    have ta := ti2 a (by simp)
    have tr : ∀ a ∈ lr, TinyM a := fun a ha => ti2 a (by simp [ha])
    simp only [List.length_cons] at hi
    obtain ⟨y1, y2, y3, y4, B1, B2, B3, B4, rfl, z1, z2, z3, z4, rfl⟩ := hR
    have f := z1.form
    obtain ⟨_, _, rfl, _⟩ := f
    have nbB1 : b ∉ B1 := fun hm => hbi (by simp [hm])
    have sbB1 : ∀ c ∈ B1, c ∈ B1 ++ (B2 ++ (B3 ++ (B4))) := fun c hm => by simp [hm]
    have f := z2.form
    obtain ⟨_, _, rfl, _⟩ := f
    have nbB2 : b ∉ B2 := fun hm => hbi (by simp [hm])
    have sbB2 : ∀ c ∈ B2, c ∈ B1 ++ (B2 ++ (B3 ++ (B4))) := fun c hm => by simp [hm]
    have f := z3.form
    obtain ⟨_, _, rfl, _⟩ := f
    have nbB3 : b ∉ B3 := fun hm => hbi (by simp [hm])
    have sbB3 : ∀ c ∈ B3, c ∈ B1 ++ (B2 ++ (B3 ++ (B4))) := fun c hm => by simp [hm]
    have f := z4.form
    obtain ⟨_, _, rfl, _⟩ := f
    have nbB4 : b ∉ B4 := fun hm => hbi (by simp [hm])
    have sbB4 : ∀ c ∈ B4, c ∈ B1 ++ (B2 ++ (B3 ++ (B4))) := fun c hm => by simp [hm]
    have ndB1 : Nd B1 := fun c => by
      have := ndi c
      try simp only [List.count_append] at this
      omega
    have dB1B2 : ∀ c ∈ B1, c ∉ B2 := fun c h1 h2 => by
      have := ndi c
      have := List.count_pos_iff.2 h1
      have := List.count_pos_iff.2 h2
      simp only [List.count_append] at *
      omega
    have dB1B3 : ∀ c ∈ B1, c ∉ B3 := fun c h1 h2 => by
      have := ndi c
      have := List.count_pos_iff.2 h1
      have := List.count_pos_iff.2 h2
      simp only [List.count_append] at *
      omega
    have dB1B4 : ∀ c ∈ B1, c ∉ B4 := fun c h1 h2 => by
      have := ndi c
      have := List.count_pos_iff.2 h1
      have := List.count_pos_iff.2 h2
      simp only [List.count_append] at *
      omega
    have ndB2 : Nd B2 := fun c => by
      have := ndi c
      try simp only [List.count_append] at this
      omega
    have dB2B1 : ∀ c ∈ B2, c ∉ B1 := fun c h1 h2 => by
      have := ndi c
      have := List.count_pos_iff.2 h1
      have := List.count_pos_iff.2 h2
      simp only [List.count_append] at *
      omega
    have dB2B3 : ∀ c ∈ B2, c ∉ B3 := fun c h1 h2 => by
      have := ndi c
      have := List.count_pos_iff.2 h1
      have := List.count_pos_iff.2 h2
      simp only [List.count_append] at *
      omega
    have dB2B4 : ∀ c ∈ B2, c ∉ B4 := fun c h1 h2 => by
      have := ndi c
      have := List.count_pos_iff.2 h1
      have := List.count_pos_iff.2 h2
      simp only [List.count_append] at *
      omega
    have ndB3 : Nd B3 := fun c => by
      have := ndi c
      try simp only [List.count_append] at this
      omega
    have dB3B1 : ∀ c ∈ B3, c ∉ B1 := fun c h1 h2 => by
      have := ndi c
      have := List.count_pos_iff.2 h1
      have := List.count_pos_iff.2 h2
      simp only [List.count_append] at *
      omega
    have dB3B2 : ∀ c ∈ B3, c ∉ B2 := fun c h1 h2 => by
      have := ndi c
      have := List.count_pos_iff.2 h1
      have := List.count_pos_iff.2 h2
      simp only [List.count_append] at *
      omega
    have dB3B4 : ∀ c ∈ B3, c ∉ B4 := fun c h1 h2 => by
      have := ndi c
      have := List.count_pos_iff.2 h1
      have := List.count_pos_iff.2 h2
      simp only [List.count_append] at *
      omega
    have ndB4 : Nd B4 := fun c => by
      have := ndi c
      try simp only [List.count_append] at this
      omega
    have dB4B1 : ∀ c ∈ B4, c ∉ B1 := fun c h1 h2 => by
      have := ndi c
      have := List.count_pos_iff.2 h1
      have := List.count_pos_iff.2 h2
      simp only [List.count_append] at *
      omega
    have dB4B2 : ∀ c ∈ B4, c ∉ B2 := fun c h1 h2 => by
      have := ndi c
      have := List.count_pos_iff.2 h1
      have := List.count_pos_iff.2 h2
      simp only [List.count_append] at *
      omega
    have dB4B3 : ∀ c ∈ B4, c ∉ B3 := fun c h1 h2 => by
      have := ndi c
      have := List.count_pos_iff.2 h1
      have := List.count_pos_iff.2 h2
      simp only [List.count_append] at *
      omega
    refine ob (by omega) ?_
    conv => whnf
    refine ptr' hq ?_
    conv => whnf
    refine cu0.st (i := 0) (by dsimp only; omega) (Nat.le_of_ble_eq_true rfl) (fun h1 cu1 kp1 => ?_)
    conv => whnf
    refine ar_in (by omega) (by omega) ?_
    conv => whnf
    have w1z1 := z1.keep (kp1 _ nbB1)
    have w1z2 := z2.keep keptIns (kp1 _ nbB2)
    have w1z3 := z3.keep keptShp (kp1 _ nbB3)
    have w1z4 := z4.keep keptCtc (kp1 _ nbB4)
    refine ob (by omega) ?_
    conv => whnf
    refine ptr' hq ?_
    conv => whnf
    refine cu1.st (i := 1) (by dsimp only; omega) (Nat.le_of_ble_eq_true rfl) (fun h2 cu2 kp2 => ?_)
    conv => whnf
    refine ar_in (by omega) (by omega) ?_
    conv => whnf
    have w2z1 := w1z1.keep (kp2 _ nbB1)
    have w2z2 := w1z2.keep keptIns (kp2 _ nbB2)
    have w2z3 := w1z3.keep keptShp (kp2 _ nbB3)
    have w2z4 := w1z4.keep keptCtc (kp2 _ nbB4)
    refine ob (by omega) ?_
    conv => whnf
    refine ptr' hq ?_
    conv => whnf
    refine ld (rd_mid cu2.cell (i := 2) (by dsimp only; omega) rfl) ?_
    conv => whnf
    refine call_r (markIntS_c _ _ B1 _ w2z1 ndB1 (k0 + 1 + 1) ⟨by omega, by omega⟩ ta.args) ?_
    rintro v3 h3 ⟨a3, k3, rfl, x3, y3, z3, H3, ev3⟩
    conv => whnf
    have cu3 := cu2.call ev3 nbB1 sbB1
    have w3z2 := w2z2.keep keptIns (ev3.keep dB2B1)
    have w3z3 := w2z3.keep keptShp (ev3.keep dB3B1)
    have w3z4 := w2z4.keep keptCtc (ev3.keep dB4B1)
    refine ob (by omega) ?_
    conv => whnf
    refine ptr' hq ?_
    conv => whnf
    refine cu3.st (i := 3) (by dsimp only; omega) (Nat.le_of_ble_eq_true rfl) (fun h4 cu4 kp4 => ?_)
    conv => whnf
    refine ar_in (by omega) (by omega) ?_
    conv => whnf
    have w4z1 := z3.1.keep (kp4 _ nbB1)
    have w4z2 := w3z2.keep keptIns (kp4 _ nbB2)
    have w4z3 := w3z3.keep keptShp (kp4 _ nbB3)
    have w4z4 := w3z4.keep keptCtc (kp4 _ nbB4)
    refine ob (by omega) ?_
    conv => whnf
    refine ptr' hq ?_
    conv => whnf
    refine cu4.st (i := 4) (by dsimp only; omega) (Nat.le_of_ble_eq_true rfl) (fun h5 cu5 kp5 => ?_)
    conv => whnf
    refine ar_in (by omega) (by omega) ?_
    conv => whnf
    have w5z1 := w4z1.keep (kp5 _ nbB1)
    have w5z2 := w4z2.keep keptIns (kp5 _ nbB2)
    have w5z3 := w4z3.keep keptShp (kp5 _ nbB3)
    have w5z4 := w4z4.keep keptCtc (kp5 _ nbB4)
    refine ob (by omega) ?_
    conv => whnf
    refine ptr' hq ?_
    conv => whnf
    refine ld (rd_mid cu5.cell (i := 5) (by dsimp only; omega) rfl) ?_
    conv => whnf
    refine call_r (markInsS_c _ _ B2 _ w5z2 ndB2 (k3 + 1 + 1) ⟨by omega, by omega⟩ ta.code) ?_
    rintro v6 h6 ⟨a6, k6, rfl, x6, y6, z6, H6, ev6⟩
    conv => whnf
    have cu6 := cu5.call ev6 nbB2 sbB2
    have w6z1 := w5z1.keep (ev6.keep dB1B2)
    have w6z3 := w5z3.keep keptShp (ev6.keep dB3B2)
    have w6z4 := w5z4.keep keptCtc (ev6.keep dB4B2)
    refine ob (by omega) ?_
    conv => whnf
    refine ptr' hq ?_
    conv => whnf
    refine ld (rd_mid cu6.cell (i := 6) (by dsimp only; omega) rfl) ?_
    conv => whnf
    refine call_r (markShapeS_c _ _ B3 _ w6z3 ndB3 (k6) ⟨by omega, by omega⟩ ta.shapes ta.each) ?_
    rintro v7 h7 ⟨a7, k7, rfl, x7, y7, z7, H7, ev7⟩
    conv => whnf
    have cu7 := cu6.call ev7 nbB3 sbB3
    have w7z1 := w6z1.keep (ev7.keep dB1B3)
    have w7z2 := z6.1.keep keptIns (ev7.keep dB2B3)
    have w7z4 := w6z4.keep keptCtc (ev7.keep dB4B3)
    refine ob (by omega) ?_
    conv => whnf
    refine ptr' hq ?_
    conv => whnf
    refine ld (rd_mid cu7.cell (i := 7) (by dsimp only; omega) rfl) ?_
    conv => whnf
    refine call_r (markCatchS_c _ _ B4 _ w7z4 ndB4 (k7) ⟨by omega, by omega⟩ ta.catches) ?_
    rintro v8 h8 ⟨a8, k8, rfl, x8, y8, z8, H8, ev8⟩
    conv => whnf
    have cu8 := cu7.call ev8 nbB4 sbB4
    have w8z1 := w7z1.keep (ev8.keep dB1B4)
    have w8z2 := w7z2.keep keptIns (ev8.keep dB2B4)
    have w8z3 := z7.1.keep keptShp (ev8.keep dB3B4)
    refine ar_in (by omega) (by omega) ?_
    conv => whnf
    have nm := reb h8 _ ⟨k0, k0 + 1, a3, k3, k3 + 1, a6, a7, a8⟩ (k8) cu8 rfl ⟨_, _, _, _, _, _, _, _, rfl, w8z1, w8z2, w8z3, z8.1, rfl⟩ trivial
    exact lpn (i + 1, k8, l1 ++ [⟨k0, k0 + 1, a3, k3, k3 + 1, a6, a7, a8⟩], lr, h8) ⟨by simp only; omega, by simp [hl1], by simp only; omega, by simp only; omega, nm, fun y hy => (List.mem_append.1 hy).elim (ti1 y) (fun hy => by rw [List.mem_singleton.1 hy]; exact ⟨z3.2, z6.2, z7.2.1, z7.2.2, z8.2⟩), tr⟩ (by simp only; omega) rfl
  · have e : l2 = [] := List.eq_nil_of_length_eq_zero (by omega)
    subst e
    have own := hM.own
    rw [List.append_nil] at own
    exact ⟨l1, k0, rfl, q0, by omega, ⟨own, by unfold T20; omega, ti1⟩, hM.held, hM.ev⟩
theorem markUnit_c (us : List Value) (u : Unt) (B : List Nat) (h : Heap) (ho : OwnUnt h us u B) (nd : Nd B) (k : Int) (hk : 0 ≤ k ∧ k ≤ 1000) (hT : TinyU u) : Rets Tryz.prog 20 [.agg ⟨us⟩, .int .i64 k] h fun v h' => ∃ k' : Int, v = .int .i64 k' ∧ k ≤ k' ∧ Ev h h' B B := by
  obtain ⟨c, m, B1, B2, rfl, o1, o2, rfl⟩ := ho
  have f := o1.form
  obtain ⟨_, _, rfl, _⟩ := f
  have f := o2.form
  obtain ⟨_, _, rfl, _⟩ := f
  refine rets Tryz.sigOk Tryz.func20 Tryz.F20 Tryz.ok20 rfl ?_
  conv => whnf
  refine call_r (markClassS_c _ _ B1 h o1 nd.left k ⟨hk.1, by omega⟩ hT.classes hT.cls) ?_
  rintro v1 h1 ⟨a1, k1, rfl, x1, y1, z1, H1, ev1⟩
  conv => whnf
  refine call_r (markMethodS_c _ _ B2 h1 (o2.keep keptMth (ev1.keep fun c h2 h3 => nd.dis c h3 h2)) nd.right k1 ⟨by omega, by omega⟩ hT.methods hT.mth) ?_
  rintro v2 h2 ⟨a2, k2, rfl, x2, y2, z2, H2, ev2⟩
  conv => whnf
  exact ⟨k2, rfl, by omega, ⟨fun c hn hs => by
    have e1 := ev1.old c hn fun hm => hs (by simp [hm])
    rw [ev2.old c (by rw [e1]; exact hn) fun hm => hs (by simp [hm]), e1], fun c hc => .inl hc⟩⟩
theorem markMach_c (mc : List Value) (M : Mch) (B : List Nat) (h : Heap) (ho : OwnM h mc M B) (nd : Nd B) (k : Int) (hk : 0 ≤ k ∧ k ≤ 1000) (hT : TinyN M) : Rets Tryz.prog 21 [.agg ⟨mc⟩, .int .i64 k] h
    fun v h' => ∃ (M' : Mch) (k' : Int), v = .int .i64 k' ∧ k ≤ k' ∧ k' ≤ 9000000000000000000 ∧ OwnM h' mc M' B ∧ TinyN M' ∧ HeldM k M' k' ∧ Ev h h' B B := by
  obtain ⟨vo, vf, vs, B1, B2, B3, rfl, o1, o2, o3, rfl⟩ := ho
  have f := o1.form
  obtain ⟨_, _, rfl, _⟩ := f
  have f := o2.form
  obtain ⟨_, _, rfl, _⟩ := f
  have f := o3.form
  obtain ⟨_, _, rfl, _⟩ := f
  have d : ∀ c, (c ∈ B1 → c ∉ B2 ∧ c ∉ B3) ∧ (c ∈ B2 → c ∉ B3) := fun c => by
    have := nd c
    simp only [List.count_append] at this
    refine ⟨fun h1 => ⟨fun h2 => ?_, fun h2 => ?_⟩, fun h1 h2 => ?_⟩
    all_goals
      have := List.count_pos_iff.2 h1
      have := List.count_pos_iff.2 h2
      omega
  refine rets Tryz.sigOk Tryz.func21 Tryz.F21 Tryz.ok21 rfl ?_
  conv => whnf
  refine call_r (markObjS_c _ _ B1 h o1 nd.left.left k ⟨hk.1, by omega⟩ hT.objs hT.ob) ?_
  rintro v1 h1 ⟨a1, k1, rfl, x1, y1, z1, H1, ev1⟩
  conv => whnf
  refine call_r (markFrameS_c _ _ B2 h1 (o2.keep keptF (ev1.keep fun c h2 h3 => ((d c).1 h3).1 h2)) nd.left.right k1 ⟨by omega, by omega⟩ hT.frames hT.fr) ?_
  rintro v2 h2 ⟨a2, k2, rfl, x2, y2, z2, H2, ev2⟩
  conv => whnf
  refine call_r (markIntS_c _ _ B3 h2 ((o3.keep (ev1.keep fun c h2 h3 => ((d c).1 h3).2 h2)).keep (ev2.keep fun c h2 h3 => (d c).2 h3 h2)) nd.right k2 ⟨by omega, by omega⟩ hT.said) ?_
  rintro v3 h3 ⟨a3, k3, rfl, x3, y3, z3, H3, ev3⟩
  conv => whnf
  have w1 := (z1.1.keep keptO (ev2.keep fun c h2 => ((d c).1 h2).1)).keep keptO (ev3.keep fun c h2 => ((d c).1 h2).2)
  have w2 := z2.1.keep keptF (ev3.keep fun c h2 => (d c).2 h2)
  have f1 : ∀ c, h c ≠ none → c ∉ B1 ++ B2 ++ B3 → h3 c = h c := fun c hn hs => by
    have n1 : c ∉ B1 := fun hm => hs (by simp [hm])
    have n2 : c ∉ B2 := fun hm => hs (by simp [hm])
    have n3 : c ∉ B3 := fun hm => hs (by simp [hm])
    have e1 := ev1.old c hn n1
    have e2 := ev2.old c (by rw [e1]; exact hn) n2
    rw [ev3.old c (by rw [e2, e1]; exact hn) n3, e2, e1]
  exact ⟨⟨a1, a2, a3, M.steps, M.fin, M.out⟩, k3, rfl, by omega, by omega, ⟨_, _, _, B1, B2, B3, rfl, w1, w2, z3.1, rfl⟩, ⟨z1.2.1, z1.2.2, z2.2.1, z2.2.2, z3.2⟩, ⟨k1, k2, H1, H2, H3⟩, ⟨f1, fun c hc => .inl hc⟩⟩
end Go.Proofs
namespace Go.Proofs
open Go.Vc
set_option maxRecDepth 100000
set_option maxHeartbeats 4000000
theorem heldIntS_c (v : Value) (l : List Int) (h : Heap) (hv : Row 1 IntQ h v l) (k k' : Int) (hH : HeldL HeldI k l k') (hk : 0 ≤ k ∧ k' ≤ 9000000000000000000) : Pure Tryz.prog 63 [v, .int .i64 k] h (.int .i64 k') := by
  have f := hv.len
  obtain ⟨p, c, rfl, hc, hn⟩ := f
  refine pur Tryz.sigOk Tryz.func63 Tryz.F63 Tryz.ok63 rfl ?_
  conv => whnf
  refine lps [0, 1, 5] [] (fun s : Nat × Int => s.1 ≤ l.length ∧ 0 ≤ s.2 ∧ HeldL HeldI s.2 (l.drop s.1) k') (fun s => l.length - s.1)
    (fun s => ([.v (.slice p l.length c), .v (.int .i64 s.2), .v (.int .i64 s.1)], [], h)) (0, k) ⟨Nat.zero_le _, hk.1, hH⟩ rfl ?_
  rintro ⟨i, k0⟩ ⟨hi, q0, hL⟩
  simp only at hi q0 hL ⊢
  conv => whnf
  refine selP (fun g => ?_) (fun g => ?_)
  all_goals conv => whnf
  · have hil : i < l.length := by omega
    have e := hv.get hil
    obtain ⟨b, off, vs, hp, e1, e2⟩ := e
    obtain rfl := e2
    have e := hL.head hil
    obtain ⟨k1, hh, hL2⟩ := e
    have b2 := hL2.le (fun _ _ _ h => HeldI.le h)
    have b1 := HeldI.le hh
    obtain ⟨hx, rfl⟩ := hh
    refine ob (by omega) ?_
    conv => whnf
    refine ptr' hp ?_
    conv => whnf
    refine ld (rdn_get e1 (i := 0) rfl) ?_
    conv => whnf
    refine selNPf hx ?_
    conv => whnf
    refine ar_in (by omega) (by omega) ?_
    conv => whnf
    refine ar_in (by omega) (by omega) ?_
    conv => whnf
    exact lpn (i + 1, k0 + 1) ⟨by simp only; omega, by simp only; omega, hL2⟩ (by simp only; omega) rfl
  · have e := hL.done (by omega)
    subst e
    exact ⟨rfl, rfl⟩
theorem heldValS_c (v : Value) (l : List Vl) (h : Heap) (hv : Row 2 VlQ h v l) (k k' : Int) (hH : HeldL HeldVl k l k') (hk : 0 ≤ k ∧ k' ≤ 9000000000000000000) : Pure Tryz.prog 119 [v, .int .i64 k] h (.int .i64 k') := by
  have f := hv.len
  obtain ⟨p, c, rfl, hc, hn⟩ := f
  refine pur Tryz.sigOk Tryz.func119 Tryz.F119 Tryz.ok119 rfl ?_
  conv => whnf
  refine lps [0, 1, 5] [] (fun s : Nat × Int => s.1 ≤ l.length ∧ 0 ≤ s.2 ∧ HeldL HeldVl s.2 (l.drop s.1) k') (fun s => l.length - s.1)
    (fun s => ([.v (.slice p l.length c), .v (.int .i64 s.2), .v (.int .i64 s.1)], [], h)) (0, k) ⟨Nat.zero_le _, hk.1, hH⟩ rfl ?_
  rintro ⟨i, k0⟩ ⟨hi, q0, hL⟩
  simp only at hi q0 hL ⊢
  conv => whnf
  refine selP (fun g => ?_) (fun g => ?_)
  all_goals conv => whnf
  · have hil : i < l.length := by omega
    have e := hv.get hil
    obtain ⟨b, off, vs, hp, e1, e2⟩ := e
    obtain rfl := e2
    have e := hL.head hil
    obtain ⟨k1, hh, hL2⟩ := e
    have b2 := hL2.le (fun _ _ _ h => HeldVl.le h)
    have b1 := HeldVl.le hh
    obtain ⟨hx, hy, rfl⟩ := hh
    refine ob (by omega) ?_
    conv => whnf
    refine ptr' hp ?_
    conv => whnf
    refine ld (rdn_get e1 (i := 0) rfl) ?_
    conv => whnf
    refine ob (by omega) ?_
    conv => whnf
    refine selB (fun g => absurd g (by rw [hx]; unfold mark3; simp)) (fun _ => ?_)
    conv => whnf
    refine ar_in (by omega) (by omega) ?_
    conv => whnf
    refine ob (by omega) ?_
    conv => whnf
    refine ptr' hp ?_
    conv => whnf
    refine ld (rdn_get e1 (i := 1) rfl) ?_
    conv => whnf
    refine selNPf hy ?_
    conv => whnf
    refine ar_in (by omega) (by omega) ?_
    conv => whnf
    refine ar_in (by omega) (by omega) ?_
    conv => whnf
    exact lpn (i + 1, k0 + 1 + 1) ⟨by simp only; omega, by simp only; omega, hL2⟩ (by simp only; omega) rfl
  · have e := hL.done (by omega)
    subst e
    exact ⟨rfl, rfl⟩
theorem heldObjS_c (v : Value) (l : List Ob) (h : Heap) (hv : Row 2 ObQ h v l) (k k' : Int) (hH : HeldL HeldOb k l k') (hk : 0 ≤ k ∧ k' ≤ 9000000000000000000) : Pure Tryz.prog 61 [v, .int .i64 k] h (.int .i64 k') := by
  have f := hv.len
  obtain ⟨p, c, rfl, hc, hn⟩ := f
  refine pur Tryz.sigOk Tryz.func61 Tryz.F61 Tryz.ok61 rfl ?_
  conv => whnf
  refine lps [0, 1, 5] [] (fun s : Nat × Int => s.1 ≤ l.length ∧ 0 ≤ s.2 ∧ HeldL HeldOb s.2 (l.drop s.1) k') (fun s => l.length - s.1)
    (fun s => ([.v (.slice p l.length c), .v (.int .i64 s.2), .v (.int .i64 s.1)], [], h)) (0, k) ⟨Nat.zero_le _, hk.1, hH⟩ rfl ?_
  rintro ⟨i, k0⟩ ⟨hi, q0, hL⟩
  simp only at hi q0 hL ⊢
  conv => whnf
  refine selP (fun g => ?_) (fun g => ?_)
  all_goals conv => whnf
  · have hil : i < l.length := by omega
    have e := hv.get hil
    obtain ⟨b, off, vs, hp, e1, e2⟩ := e
    obtain ⟨_, rfl, z1⟩ := e2
    have e := hL.head hil
    obtain ⟨k1, hh, hL2⟩ := e
    have b2 := hL2.le (fun _ _ _ h => HeldOb.le h)
    have b1 := HeldOb.le hh
    obtain ⟨hx, hy⟩ := hh
    have bhy := hy.le (fun _ _ _ h => HeldVl.le h)
    refine ob (by omega) ?_
    conv => whnf
    refine ptr' hp ?_
    conv => whnf
    refine ld (rdn_get e1 (i := 0) rfl) ?_
    conv => whnf
    refine selNPf hx ?_
    conv => whnf
    refine ar_in (by omega) (by omega) ?_
    conv => whnf
    refine ob (by omega) ?_
    conv => whnf
    refine ptr' hp ?_
    conv => whnf
    refine ld (rdn_get e1 (i := 1) rfl) ?_
    conv => whnf
    refine call_p (heldValS_c _ _ h z1 (k0 + 1) k1 hy ⟨by omega, by omega⟩) ?_
    conv => whnf
    refine selPf (by omega) ?_
    conv => whnf
    refine ar_in (by omega) (by omega) ?_
    conv => whnf
    exact lpn (i + 1, k1) ⟨by simp only; omega, by simp only; omega, hL2⟩ (by simp only; omega) rfl
  · have e := hL.done (by omega)
    subst e
    exact ⟨rfl, rfl⟩
theorem heldFrameS_c (v : Value) (l : List Frm) (h : Heap) (hv : Row 4 FrmQ h v l) (k k' : Int) (hH : HeldL HeldFr k l k') (hk : 0 ≤ k ∧ k' ≤ 9000000000000000000) : Pure Tryz.prog 62 [v, .int .i64 k] h (.int .i64 k') := by
  have f := hv.len
  obtain ⟨p, c, rfl, hc, hn⟩ := f
  refine pur Tryz.sigOk Tryz.func62 Tryz.F62 Tryz.ok62 rfl ?_
  conv => whnf
  refine lps [0, 1, 5] [] (fun s : Nat × Int => s.1 ≤ l.length ∧ 0 ≤ s.2 ∧ HeldL HeldFr s.2 (l.drop s.1) k') (fun s => l.length - s.1)
    (fun s => ([.v (.slice p l.length c), .v (.int .i64 s.2), .v (.int .i64 s.1)], [], h)) (0, k) ⟨Nat.zero_le _, hk.1, hH⟩ rfl ?_
  rintro ⟨i, k0⟩ ⟨hi, q0, hL⟩
  simp only at hi q0 hL ⊢
  conv => whnf
  refine selP (fun g => ?_) (fun g => ?_)
  all_goals conv => whnf
  · have hil : i < l.length := by omega
    have e := hv.get hil
    obtain ⟨b, off, vs, hp, e1, e2⟩ := e
    obtain ⟨_, _, rfl, z1, z2⟩ := e2
    have e := hL.head hil
    obtain ⟨k1, hh, hL2⟩ := e
    have b2 := hL2.le (fun _ _ _ h => HeldFr.le h)
    have b1 := HeldFr.le hh
    obtain ⟨hx, hy, k2, hz, hw⟩ := hh
    have bhz := hz.le (fun _ _ _ h => HeldVl.le h)
    have bhw := hw.le (fun _ _ _ h => HeldVl.le h)
    refine ob (by omega) ?_
    conv => whnf
    refine ptr' hp ?_
    conv => whnf
    refine ld (rdn_get e1 (i := 0) rfl) ?_
    conv => whnf
    refine selNPf hx ?_
    conv => whnf
    refine ar_in (by omega) (by omega) ?_
    conv => whnf
    refine ob (by omega) ?_
    conv => whnf
    refine ptr' hp ?_
    conv => whnf
    refine ld (rdn_get e1 (i := 1) rfl) ?_
    conv => whnf
    refine selNPf hy ?_
    conv => whnf
    refine ar_in (by omega) (by omega) ?_
    conv => whnf
    refine ob (by omega) ?_
    conv => whnf
    refine ptr' hp ?_
    conv => whnf
    refine ld (rdn_get e1 (i := 2) rfl) ?_
    conv => whnf
    refine call_p (heldValS_c _ _ h z1 (k0 + 1 + 1) k2 hz ⟨by omega, by omega⟩) ?_
    conv => whnf
    refine selPf (by omega) ?_
    conv => whnf
    refine ob (by omega) ?_
    conv => whnf
    refine ptr' hp ?_
    conv => whnf
    refine ld (rdn_get e1 (i := 3) rfl) ?_
    conv => whnf
    refine call_p (heldValS_c _ _ h z2 (k2) k1 hw ⟨by omega, by omega⟩) ?_
    conv => whnf
    refine selPf (by omega) ?_
    conv => whnf
    refine ar_in (by omega) (by omega) ?_
    conv => whnf
    exact lpn (i + 1, k1) ⟨by simp only; omega, by simp only; omega, hL2⟩ (by simp only; omega) rfl
  · have e := hL.done (by omega)
    subst e
    exact ⟨rfl, rfl⟩
theorem heldMach_c (mc : List Value) (M : Mch) (h : Heap) (hv : MchQ h mc M) (k k' : Int) (hH : HeldM k M k') (hk : 0 ≤ k ∧ k' ≤ 9000000000000000000) : Pure Tryz.prog 22 [.agg ⟨mc⟩, .int .i64 k] h (.int .i64 k') := by
  obtain ⟨vo, vf, vs, rfl, v1, v2, v3⟩ := hv
  obtain ⟨k1, k2, h1, h2, h3⟩ := hH
  have b1 := h1.le (fun _ _ _ h => HeldOb.le h)
  have b2 := h2.le (fun _ _ _ h => HeldFr.le h)
  have b3 := h3.le (fun _ _ _ h => HeldI.le h)
  unfold mcells
  refine pur Tryz.sigOk Tryz.func22 Tryz.F22 Tryz.ok22 rfl ?_
  conv => whnf
  refine call_p (heldObjS_c _ _ h v1 k k1 h1 ⟨by omega, by omega⟩) ?_
  conv => whnf
  refine selPf (by omega) ?_
  conv => whnf
  refine call_p (heldFrameS_c _ _ h v2 k1 k2 h2 ⟨by omega, by omega⟩) ?_
  conv => whnf
  refine selPf (by omega) ?_
  conv => whnf
  refine call_p (heldIntS_c _ _ h v3 k2 k' h3 ⟨by omega, by omega⟩) ?_
  conv => whnf
  refine selPf (by omega) ?_
  conv => whnf
  exact ⟨rfl, rfl⟩
end Go.Proofs
namespace Go.Proofs
open Go.Vc
set_option maxRecDepth 100000
set_option maxHeartbeats 4000000
theorem OwnUnt.form {h : Heap} {us : List Value} {u : Unt} {B : List Nat} (ho : OwnUnt h us u B) : ∃ p c q d, us = [.slice p u.classes.length c, .slice q u.methods.length d] := by
  obtain ⟨_, _, _, _, e, o1, o2, _⟩ := ho
  obtain ⟨p, c, rfl, _⟩ := o1.form
  obtain ⟨q, d, rfl, _⟩ := o2.form
  exact ⟨p, c, q, d, e⟩
theorem IsRun.tiny {u : Unt} {steps : Int} {R : Mch} (h : IsRun u steps R) : TinyN R := by
  by_cases hP : RunP u steps
  · rw [h.1 hP]
    have hI := runI hP.1 steps.toNat (by have := hP.2; omega)
    exact (hI.ok.small hP.1).tiny
  · rw [h.2 hP]
    exact ⟨by simp [emptyM], by simp [emptyM], by simp [emptyM], by simp [emptyM], by simp [emptyM]⟩
theorem fresh_not {h : Heap} {A B : List Nat} (ha : ∀ b ∈ A, ∃ o, h b = some o) (hb : ∀ b ∈ B, h b = none) : ∀ b ∈ A, b ∉ B := fun b h1 h2 => by
  obtain ⟨o, ho⟩ := ha b h1
  rw [hb b h2] at ho; cases ho
theorem in_le {h h' : Heap} {A : List Nat} (hl : h.le h') (ha : ∀ b ∈ A, ∃ o, h b = some o) : ∀ b ∈ A, ∃ o, h' b = some o := fun b hb => by
  obtain ⟨o, ho⟩ := ha b hb
  exact ⟨o, hl _ _ ho⟩
theorem FnExactMachRun_c (us : List Value) (u : Unt) (steps : Int) (h : Heap) (hu : UntR h us u) : Pure Tryz.prog 3 [.agg ⟨us⟩, .int .i64 steps] h (.bool true) := by
  have hu0 := hu
  obtain ⟨y1, y2, rfl, c1, c2⟩ := hu
  have f := c1.len
  obtain ⟨p1, q1, rfl, _, _⟩ := f
  have f := c2.len
  obtain ⟨p2, q2, rfl, _, _⟩ := f
  have f := isRun_ex u steps
  obtain ⟨R, hIs⟩ := f
  have hs := hIs.tiny
  refine purL Tryz.sigOk Tryz.func3 Tryz.F3 Tryz.ok3 rfl ?_
  conv => whnf
  refine call_r (szUnit_c _ u h hu0 1048576 (by omega)) ?_
  rintro v0 h0 ⟨rfl, r, rfl, hr⟩
  conv => whnf
  refine selP (fun g => ?_) (fun g => ?_)
  all_goals conv => whnf
  · exact ⟨rfl, Heap.le_refl h⟩
  obtain ⟨_, _, hT⟩ := hr.resolve_left (by omega)
  clear hr
  refine call_r (toUnit_c _ u h hu0 hT) ?_
  rintro v1 h1 ⟨l1, B1, ⟨x1, rfl, o1⟩, n1, f1⟩
  have f := o1.form
  obtain ⟨_, _, _, _, rfl⟩ := f
  conv => whnf
  refine call_r (sMachRun_c _ u steps h1 (o1.read hu0) R hIs) ?_
  rintro v2 h2 ⟨l2, mw, Bw, rfl, ow, nw, fw⟩
  have f := ow.msl
  obtain ⟨_, _, _, _, _, _, rfl⟩ := f
  unfold msl mcells at ow ⊢
  conv => whnf
  have l02 := Heap.le_trans l1 l2
  refine call_r (toUnit_c _ u h2 (hu0.le l02) hT) ?_
  rintro v3 h3 ⟨l3, Bx, ⟨x3, rfl, ox⟩, nx, fx⟩
  have f := ox.form
  obtain ⟨_, _, _, _, rfl⟩ := f
  conv => whnf
  refine call_r (iMachRun_c _ u steps h3 (ox.read hu0) R hIs) ?_
  rintro v4 h4 ⟨l4, mg, Bg, rfl, og, ng, fg⟩
  have f := og.msl
  obtain ⟨_, _, _, _, _, _, rfl⟩ := f
  unfold msl mcells at og ⊢
  conv => whnf
  have ow4 := (ow.keep (Keep.of_le l3 _)).keep (Keep.of_le l4 _)
  refine call_p (eqMach_c _ _ R h4 (og.readQ hs) (ow4.readQ hs)) ?_
  conv => whnf
  have l04 := Heap.le_trans l02 (Heap.le_trans l3 l4)
  refine callX_r (toUnit_c _ u h4 (hu0.le l04) hT) ?_
  rintro v5 h5 ⟨l5, B5, ⟨x5, rfl, o5⟩, n5, f5⟩
  refine ⟨l5, ?_⟩
  have f := o5.form
  obtain ⟨_, _, _, _, rfl⟩ := f
  conv => whnf
  have ox5 := (ox.keep (Keep.of_le l4 _)).keep (Keep.of_le l5 _)
  refine callX_p (eqUnit_c _ _ u h5 (ox5.read hu0) (o5.read hu0)) ?_
  conv => whnf
  have ow5 := ow4.keep (Keep.of_le l5 _)
  have og5 := og.keep (Keep.of_le l5 _)
  have dwx : ∀ b ∈ Bw, b ∉ Bx := fresh_not ow.in fx
  have dgx : ∀ b ∈ Bg, b ∉ Bx := fun b h1 h2 => fresh_not ox.in fg b h2 h1
  have dwg : ∀ b ∈ Bw, b ∉ Bg := fresh_not (in_le l3 ow.in) fg
  have f0x : ∀ b ∈ Bx, h b = none := fun b hb => free_of l02 (fx b hb)
  have f0g : ∀ b ∈ Bg, h b = none := fun b hb => free_of (Heap.le_trans l02 l3) (fg b hb)
  refine call_r (markUnit_c _ u Bx h5 ox5 nx 1 (by omega) hT) ?_
  rintro v6 h6 ⟨k6, rfl, k60, ev6⟩
  conv => whnf
  refine selPf (by omega) ?_
  conv => whnf
  have og6 := og5.keep (ev6.keep dgx)
  have ow6 := ow5.keep (ev6.keep dwx)
  have l06 := ev6.le (Heap.le_trans l04 l5) f0x
  repeat' ((first | refine selPf (by omega) ?_ | refine call_p (eqMach_c _ _ R h6 (og6.readQ hs) (ow6.readQ hs)) ?_) <;> conv => whnf)
  refine call_r (markMach_c _ R Bg h6 og6 ng 1 (by omega) hs) ?_
  rintro v7 h7 ⟨M7, k7, rfl, k70, k71, og7, hs7, H7, ev7⟩
  conv => whnf
  refine call_p (heldMach_c _ M7 h7 (og7.readQ hs7) 1 k7 H7 ⟨by omega, k71⟩) ?_
  conv => whnf
  refine selPf (by omega) ?_
  conv => whnf
  refine selNPf rfl ?_
  conv => whnf
  have ow7 := ow6.keep (ev7.keep dwg)
  have l07 := ev7.le l06 f0g
  refine call_r (toUnit_c _ u h7 (hu0.le l07) hT) ?_
  rintro v8 h8 ⟨l8, B8, ⟨x8, rfl, o8⟩, n8, f8⟩
  have f := o8.form
  obtain ⟨_, _, _, _, rfl⟩ := f
  conv => whnf
  refine call_r (iMachRun_c _ u steps h8 (o8.read hu0) R hIs) ?_
  rintro v9 h9 ⟨l9, m9, B9, rfl, o9, n9, f9⟩
  have f := o9.msl
  obtain ⟨_, _, _, _, _, _, rfl⟩ := f
  unfold msl mcells at o9 ⊢
  conv => whnf
  have l79 := Heap.le_trans l8 l9
  refine call_p (eqMach_c _ _ R h9 (o9.readQ hs) ((ow7.keep (Keep.of_le l79 _)).readQ hs)) ?_
  conv => whnf
  refine call_p (heldMach_c _ M7 h9 ((og7.keep (Keep.of_le l79 _)).readQ hs7) 1 k7 H7 ⟨by omega, k71⟩) ?_
  conv => whnf
  refine selPf (by omega) ?_
  conv => whnf
  refine selNPf rfl ?_
  conv => whnf
  exact ⟨rfl, Heap.le_trans l07 l79⟩
end Go.Proofs
namespace Go.Proofs
open Go.Vc Go.ChangeShapes Go.WideShapes
set_option maxRecDepth 100000
section
variable {H : Type} {enc : TypeId × Value → H} {P : Program} {w : World} {base : Nat} {spare : Nat → Bool} {held : Bool} {h : Heap}
def Light (P : Program) (t : TypeId) (d : DataW H) : Prop := ∀ n ∈ d.weights P t, n ≤ reachBytes
def Opens (enc : TypeId × Value → H) (P : Program) (w : World) (base : Nat) (spare : Nat → Bool) (held : Bool) (h : Heap) (t : TypeId) (sz : Nat) {α : Type} (R : Heap → List Value → α → Prop) : Prop :=
  ∀ fuel cs x, DataW.trod enc P w base spare held fuel t cs = some x → Light P t x.1 → cs.length = sz ∧ ∃ a, R h cs a
theorem listL_of {α : Type} {Q : Nat → α → Prop} : ∀ n : Nat, (∀ i, i < n → ∃ a, Q i a) → ∃ l : List α, l.length = n ∧ ∀ i x, l[i]? = some x → Q i x
  | 0, _ => ⟨[], rfl, by simp⟩
  | n + 1, hq => by
    obtain ⟨l, hl, hx⟩ := listL_of n (fun i hi => hq i (by omega))
    obtain ⟨a, ha⟩ := hq n (by omega)
    refine ⟨l ++ [a], by simp [hl], fun i x hi => ?_⟩
    by_cases h1 : i < n
    · rw [List.getElem?_append_left (by omega)] at hi
      exact hx i x hi
    · rw [List.getElem?_append_right (by omega)] at hi
      have h2 : i = n := by
        have := (List.getElem?_eq_some_iff.1 hi).1
        simp at this; omega
      subst h2
      rw [hl, Nat.sub_self] at hi
      simp at hi
      subst hi
      exact ha
theorem rdnL_of {h : Heap} {b : Nat} : ∀ {n off : Nat} {vs : List Value}, vs.length = n → (∀ i, i < n → rd h b (off + i) = vs[i]?) → rdn h b off n = some vs
  | 0, _, [], _, _ => rfl
  | n + 1, off, v :: vs, hl, hx => by
    have h0 := hx 0 (by omega)
    have := rdnL_of (h := h) (b := b) (n := n) (off := off + 1) (vs := vs) (by simpa using hl) (fun i hi => by
      have := hx (i + 1) (by omega)
      rw [show off + 1 + i = off + (i + 1) by omega, this]; simp)
    simp only [Nat.add_zero, List.getElem?_cons_zero] at h0
    simp only [rdn, h0, this]
theorem rdL_cell (hh : ∀ b, h b = w.heap[b]?) {b off : Nat} {v : Value} (hc : w.cell? ⟨b, off, none⟩ = some v) : rd h b off = some v := by
  rw [← hc]
  unfold rd
  rw [hh b]
  unfold World.cell?
  simp
  rcases w.heap[b]? with _ | o
  · rfl
  · cases o <;> rfl
theorem weights_all {t : TypeId} : ∀ {ds : List (DataW H)} {d : DataW H}, d ∈ ds → ∀ n ∈ d.weights P t, n ∈ DataW.weightsAll P t ds
  | d0 :: ds, d, hd, n, hn => by
    simp only [DataW.weightsAll, List.mem_append]
    rcases List.mem_cons.1 hd with rfl | hd
    · exact .inl hn
    · exact .inr (weights_all hd n hn)
theorem opens_int {t : TypeId} (ht : P.underlying t = some (.int .i64)) : Opens enc P w base spare held h t 1 IntR := by
  intro fuel cs x hx _
  obtain ⟨n, rfl, _, hw⟩ := DataW.trod_int ht hx
  exact ⟨rfl, n, rfl, bounds_i64 hw⟩
theorem opens_row {t e : TypeId} {sz : Nat} {α : Type} {R : Heap → List Value → α → Prop} (ht : P.underlying t = some (.slice e)) (hc : P.cellsOf e = sz) (hs : 0 < sz) (hb : 1 ≤ P.bytesOf e)
    (ho : Opens enc P w base spare held h e sz R) (hh : ∀ b, h b = w.heap[b]?) : Opens enc P w base spare held h t 1 (fun h cs (l : List α) => ∃ v, cs = [v] ∧ Row sz R h v l) := by
  intro fuel cs x hx hl
  rcases DataW.trod_slice ht hx with ⟨rfl, _⟩ | ⟨a, len, cap, elems, rest, n, _, rfl, rfl, hba, hlc, hm, hlen, hel, _, _⟩
  · exact ⟨rfl, [], _, rfl, by simp, none, 0, rfl, by simp, .inl rfl⟩
  refine ⟨rfl, ?_⟩
  have hsize : len ≤ 140737488351232 := by
    have := hl ((elems.length + rest.length) * P.bytesOf e) (by simp [DataW.weights, ht])
    have h2 : reachBytes = 140737488351232 := rfl
    have h3 : len ≤ (elems.length + rest.length) * P.bytesOf e := by
      rw [hlen]
      exact Nat.le_trans (Nat.le_add_right _ _) (Nat.le_mul_of_pos_right _ hb)
    omega
  have one : ∀ i, i < len → ∃ vs, w.cells? base (a.add (i * sz)) sz = some vs ∧ ∃ x, R h vs x := by
    intro i hi
    have h1 := hel i hi
    have h2 : ∃ y, elems[i]? = some y := ⟨elems[i], List.getElem?_eq_getElem (by omega)⟩
    obtain ⟨y, hy⟩ := h2
    rw [hy, Option.bind_eq_some_iff, hc] at h1
    obtain ⟨vs, h3, h4⟩ := h1
    have hly : Light P e y.1 := fun n hn => hl n (by
      have := weights_all (P := P) (t := e) (List.mem_map.2 ⟨y, List.mem_of_getElem? hy, rfl⟩) n hn
      simp only [DataW.weights, ht, List.mem_cons, List.mem_append]
      exact .inr (.inl this))
    exact ⟨vs, h3, (ho _ _ _ h4 hly).2⟩
  have first : 0 < len → ∃ b off, a = ⟨b, off, none⟩ := by
    intro h0
    obtain ⟨vs, h3, _⟩ := one 0 h0
    obtain ⟨_, h6, h7⟩ := World.cells?_some h3
    have h70 := h7 0 hs
    obtain ⟨b, off, spot⟩ := a
    cases spot with
    | none => exact ⟨b, off, rfl⟩
    | some k =>
      exfalso
      have hv0 : ∃ v, vs[0]? = some v := ⟨vs[0], List.getElem?_eq_getElem (by omega)⟩
      obtain ⟨v0, hv0⟩ := hv0
      rw [hv0] at h70
      simp only [Addr.add, World.cell?, Nat.zero_mul, if_true] at h70
      split at h70 <;> simp at h70
  have hel' : ∀ i, i < len → ∃ b off vs, a = ⟨b, off, none⟩ ∧ rdn h b (off + i * sz) sz = some vs ∧ ∃ x, R h vs x := by
    intro i hi
    obtain ⟨vs, h3, hr⟩ := one i hi
    obtain ⟨_, h6, h7⟩ := World.cells?_some h3
    obtain ⟨b, off, rfl⟩ := first (by omega)
    refine ⟨b, off, vs, rfl, rdnL_of (by omega) (fun j hj => ?_), hr⟩
    have h7j := h7 j hj
    have hvj : ∃ v, vs[j]? = some v := ⟨vs[j], List.getElem?_eq_getElem (by omega)⟩
    obtain ⟨vj, hvj⟩ := hvj
    rw [hvj] at h7j ⊢
    refine rdL_cell hh ?_
    rw [← h7j]
    congr 1
    unfold Addr.add
    by_cases h0 : i * sz = 0
    · by_cases hj0 : j = 0
      · simp [h0, hj0]
      · simp [h0, hj0]
    · by_cases hj0 : j = 0
      · simp [h0, hj0]
      · simp [h0, hj0]
  rcases Nat.eq_zero_or_pos len with h0 | h0
  · subst h0
    exact ⟨[], _, rfl, by simp, some a, cap, rfl, by simp, .inl rfl⟩
  · obtain ⟨b, off, _, rfl, _⟩ := hel' 0 h0
    obtain ⟨l, hll, hlx⟩ := listL_of (Q := fun i x => ∃ vs, rdn h b (off + i * sz) sz = some vs ∧ R h vs x) len (fun i hi => by
      obtain ⟨b', off', vs, he, h1, x, h2⟩ := hel' i hi
      simp only [Addr.mk.injEq, and_true] at he
      obtain ⟨rfl, rfl⟩ := he
      exact ⟨x, vs, h1, h2⟩)
    subst hll
    exact ⟨l, _, rfl, hsize, some ⟨b, off, none⟩, cap, rfl, hlc, .inr ⟨b, off, rfl, hlx⟩⟩
theorem struct_get {t : TypeId} {fs : Array Field} {fuel : Nat} {cs : List Value} {x : DataW H × List MemPlace} (ht : P.underlying t = some (.struct fs)) (hx : DataW.trod enc P w base spare held fuel t cs = some x) (hl : Light P t x.1) {i : Nat} {f : Field} (hf : fs[i]? = some f) {k : Nat} (hk : P.cellsOf f.type = k) :
    ∃ n y, DataW.trod enc P w base spare held n f.type ((cs.drop f.offset).take k) = some y ∧ Light P f.type y.1 := by
  obtain ⟨xs, n, _, rfl, _, hlen, hy⟩ := DataW.trod_struct ht hx
  have h1 := hy i f hf
  have hi : i < fs.size := (Array.getElem?_eq_some_iff.1 hf).1
  rw [hk, List.getElem?_eq_getElem (by omega)] at h1
  refine ⟨n, _, h1, fun m hm => hl m ?_⟩
  simp only [DataW.weights, ht]
  refine DataW.weights_mem_each (j := i) (t := f.type) (d := (xs[i]'(by omega)).1) ?_ ?_ m hm
  · rw [List.getElem?_map, Array.getElem?_toList, hf]; rfl
  · rw [List.getElem?_map, List.getElem?_eq_getElem (by omega)]; rfl
theorem struct_len {t : TypeId} {fs : Array Field} {fuel : Nat} {cs : List Value} {x : DataW H × List MemPlace} (ht : P.underlying t = some (.struct fs)) (hx : DataW.trod enc P w base spare held fuel t cs = some x) {k : Nat} (hk : P.cellsOf t = k) : cs.length = k := by
  obtain ⟨_, _, _, _, hlen, _⟩ := DataW.trod_struct ht hx
  rw [hlen, hk]
end
section
variable {H : Type} {enc : TypeId × Value → H} {w : World} {base : Nat} {spare : Nat → Bool} {held : Bool} {h : Heap}
abbrev OneOf {α : Type} (R : Heap → Value → α → Prop) (h : Heap) (cs : List Value) (l : α) : Prop := ∃ v, cs = [v] ∧ R h v l
theorem o_int : Opens enc Tryz.prog w base spare held h 3 1 IntR := opens_int Tryz.underlying3
theorem o_ints (hh : ∀ b, h b = w.heap[b]?) : Opens enc Tryz.prog w base spare held h 29 1 (OneOf (Row 1 IntR)) :=
  opens_row Tryz.underlying29 (by kernel_rfl) (by omega) (of_decide_eq_true (by kernel_rfl)) o_int hh
theorem o_cls (hh : ∀ b, h b = w.heap[b]?) : Opens enc Tryz.prog w base spare held h 121 2 ClsR := by
  intro fuel cs x hx hl
  have hlen := struct_len Tryz.underlying121 hx (k := 2) (by kernel_rfl)
  obtain ⟨c0, c1, rfl⟩ : ∃ c0 c1, cs = [c0, c1] := by match cs, hlen with | [c0, c1], _ => exact ⟨c0, c1, rfl⟩
  obtain ⟨_, _, g0, k0⟩ := struct_get Tryz.underlying121 hx hl (i := 0) rfl (k := 1) (by kernel_rfl)
  obtain ⟨_, a0, e0, r0⟩ := o_int (h := h) _ _ _ g0 k0
  have e0 : c0 = .int .i64 a0 := by have : [c0] = [Value.int .i64 a0] := e0; simpa using this
  subst e0
  obtain ⟨_, _, g1, k1⟩ := struct_get Tryz.underlying121 hx hl (i := 1) rfl (k := 1) (by kernel_rfl)
  obtain ⟨_, a1, v1, e1, r1⟩ := o_ints hh _ _ _ g1 k1
  have e1 : c1 = v1 := by have : [c1] = [v1] := e1; simpa using this
  subst e1
  exact ⟨rfl, ⟨a0, a1⟩, _, rfl, r0, r1⟩
theorem o_clss (hh : ∀ b, h b = w.heap[b]?) : Opens enc Tryz.prog w base spare held h 22 1 (OneOf (Row 2 ClsR)) :=
  opens_row Tryz.underlying22 (by kernel_rfl) (by omega) (of_decide_eq_true (by kernel_rfl)) (o_cls hh) hh
theorem o_ins (hh : ∀ b, h b = w.heap[b]?) : Opens enc Tryz.prog w base spare held h 241 3 InsR := by
  intro fuel cs x hx hl
  have hlen := struct_len Tryz.underlying241 hx (k := 3) (by kernel_rfl)
  obtain ⟨c0, c1, c2, rfl⟩ : ∃ c0 c1 c2, cs = [c0, c1, c2] := by match cs, hlen with | [c0, c1, c2], _ => exact ⟨c0, c1, c2, rfl⟩
  obtain ⟨_, _, g0, k0⟩ := struct_get Tryz.underlying241 hx hl (i := 0) rfl (k := 1) (by kernel_rfl)
  obtain ⟨_, a0, e0, r0⟩ := o_int (h := h) _ _ _ g0 k0
  have e0 : c0 = .int .i64 a0 := by have : [c0] = [Value.int .i64 a0] := e0; simpa using this
  subst e0
  obtain ⟨_, _, g1, k1⟩ := struct_get Tryz.underlying241 hx hl (i := 1) rfl (k := 1) (by kernel_rfl)
  obtain ⟨_, a1, e1, r1⟩ := o_int (h := h) _ _ _ g1 k1
  have e1 : c1 = .int .i64 a1 := by have : [c1] = [Value.int .i64 a1] := e1; simpa using this
  subst e1
  obtain ⟨_, _, g2, k2⟩ := struct_get Tryz.underlying241 hx hl (i := 2) rfl (k := 1) (by kernel_rfl)
  obtain ⟨_, a2, e2, r2⟩ := o_int (h := h) _ _ _ g2 k2
  have e2 : c2 = .int .i64 a2 := by have : [c2] = [Value.int .i64 a2] := e2; simpa using this
  subst e2
  exact ⟨rfl, ⟨a0, a1, a2⟩, rfl, r0, r1, r2⟩
theorem o_inss (hh : ∀ b, h b = w.heap[b]?) : Opens enc Tryz.prog w base spare held h 123 1 (OneOf (Row 3 InsR)) :=
  opens_row Tryz.underlying123 (by kernel_rfl) (by omega) (of_decide_eq_true (by kernel_rfl)) (o_ins hh) hh
theorem o_ctc (hh : ∀ b, h b = w.heap[b]?) : Opens enc Tryz.prog w base spare held h 244 4 CtcR := by
  intro fuel cs x hx hl
  have hlen := struct_len Tryz.underlying244 hx (k := 4) (by kernel_rfl)
  obtain ⟨c0, c1, c2, c3, rfl⟩ : ∃ c0 c1 c2 c3, cs = [c0, c1, c2, c3] := by match cs, hlen with | [c0, c1, c2, c3], _ => exact ⟨c0, c1, c2, c3, rfl⟩
  obtain ⟨_, _, g0, k0⟩ := struct_get Tryz.underlying244 hx hl (i := 0) rfl (k := 1) (by kernel_rfl)
  obtain ⟨_, a0, e0, r0⟩ := o_int (h := h) _ _ _ g0 k0
  have e0 : c0 = .int .i64 a0 := by have : [c0] = [Value.int .i64 a0] := e0; simpa using this
  subst e0
  obtain ⟨_, _, g1, k1⟩ := struct_get Tryz.underlying244 hx hl (i := 1) rfl (k := 1) (by kernel_rfl)
  obtain ⟨_, a1, e1, r1⟩ := o_int (h := h) _ _ _ g1 k1
  have e1 : c1 = .int .i64 a1 := by have : [c1] = [Value.int .i64 a1] := e1; simpa using this
  subst e1
  obtain ⟨_, _, g2, k2⟩ := struct_get Tryz.underlying244 hx hl (i := 2) rfl (k := 1) (by kernel_rfl)
  obtain ⟨_, a2, e2, r2⟩ := o_int (h := h) _ _ _ g2 k2
  have e2 : c2 = .int .i64 a2 := by have : [c2] = [Value.int .i64 a2] := e2; simpa using this
  subst e2
  obtain ⟨_, _, g3, k3⟩ := struct_get Tryz.underlying244 hx hl (i := 3) rfl (k := 1) (by kernel_rfl)
  obtain ⟨_, a3, e3, r3⟩ := o_int (h := h) _ _ _ g3 k3
  have e3 : c3 = .int .i64 a3 := by have : [c3] = [Value.int .i64 a3] := e3; simpa using this
  subst e3
  exact ⟨rfl, ⟨a0, a1, a2, a3⟩, rfl, r0, r1, r2, r3⟩
theorem o_ctcs (hh : ∀ b, h b = w.heap[b]?) : Opens enc Tryz.prog w base spare held h 125 1 (OneOf (Row 4 CtcR)) :=
  opens_row Tryz.underlying125 (by kernel_rfl) (by omega) (of_decide_eq_true (by kernel_rfl)) (o_ctc hh) hh
theorem o_shp (hh : ∀ b, h b = w.heap[b]?) : Opens enc Tryz.prog w base spare held h 233 3 ShpR := by
  intro fuel cs x hx hl
  have hlen := struct_len Tryz.underlying233 hx (k := 3) (by kernel_rfl)
  obtain ⟨c0, c1, c2, rfl⟩ : ∃ c0 c1 c2, cs = [c0, c1, c2] := by match cs, hlen with | [c0, c1, c2], _ => exact ⟨c0, c1, c2, rfl⟩
  obtain ⟨_, _, g0, k0⟩ := struct_get Tryz.underlying233 hx hl (i := 0) rfl (k := 1) (by kernel_rfl)
  obtain ⟨a0, e0, _⟩ := DataW.trod_bool Tryz.underlying4 g0
  have e0 : c0 = .bool a0 := by have : [c0] = [Value.bool a0] := e0; simpa using this
  subst e0
  obtain ⟨_, _, g1, k1⟩ := struct_get Tryz.underlying233 hx hl (i := 1) rfl (k := 1) (by kernel_rfl)
  obtain ⟨_, a1, v1, e1, r1⟩ := o_ints hh _ _ _ g1 k1
  have e1 : c1 = v1 := by have : [c1] = [v1] := e1; simpa using this
  subst e1
  obtain ⟨_, _, g2, k2⟩ := struct_get Tryz.underlying233 hx hl (i := 2) rfl (k := 1) (by kernel_rfl)
  obtain ⟨_, a2, v2, e2, r2⟩ := o_ints hh _ _ _ g2 k2
  have e2 : c2 = v2 := by have : [c2] = [v2] := e2; simpa using this
  subst e2
  exact ⟨rfl, ⟨a0, a1, a2⟩, _, _, rfl, r1, r2⟩
theorem o_shps (hh : ∀ b, h b = w.heap[b]?) : Opens enc Tryz.prog w base spare held h 124 1 (OneOf (Row 3 ShpR)) :=
  opens_row Tryz.underlying124 (by kernel_rfl) (by omega) (of_decide_eq_true (by kernel_rfl)) (o_shp hh) hh
theorem o_mth (hh : ∀ b, h b = w.heap[b]?) : Opens enc Tryz.prog w base spare held h 127 8 MthR := by
  intro fuel cs x hx hl
  have hlen := struct_len Tryz.underlying127 hx (k := 8) (by kernel_rfl)
  obtain ⟨c0, c1, c2, c3, c4, c5, c6, c7, rfl⟩ : ∃ c0 c1 c2 c3 c4 c5 c6 c7, cs = [c0, c1, c2, c3, c4, c5, c6, c7] := by match cs, hlen with | [c0, c1, c2, c3, c4, c5, c6, c7], _ => exact ⟨c0, c1, c2, c3, c4, c5, c6, c7, rfl⟩
  obtain ⟨_, _, g0, k0⟩ := struct_get Tryz.underlying127 hx hl (i := 0) rfl (k := 1) (by kernel_rfl)
  obtain ⟨_, a0, e0, r0⟩ := o_int (h := h) _ _ _ g0 k0
  have e0 : c0 = .int .i64 a0 := by have : [c0] = [Value.int .i64 a0] := e0; simpa using this
  subst e0
  obtain ⟨_, _, g1, k1⟩ := struct_get Tryz.underlying127 hx hl (i := 1) rfl (k := 1) (by kernel_rfl)
  obtain ⟨_, a1, e1, r1⟩ := o_int (h := h) _ _ _ g1 k1
  have e1 : c1 = .int .i64 a1 := by have : [c1] = [Value.int .i64 a1] := e1; simpa using this
  subst e1
  obtain ⟨_, _, g2, k2⟩ := struct_get Tryz.underlying127 hx hl (i := 2) rfl (k := 1) (by kernel_rfl)
  obtain ⟨_, a2, v2, e2, r2⟩ := o_ints hh _ _ _ g2 k2
  have e2 : c2 = v2 := by have : [c2] = [v2] := e2; simpa using this
  subst e2
  obtain ⟨_, _, g3, k3⟩ := struct_get Tryz.underlying127 hx hl (i := 3) rfl (k := 1) (by kernel_rfl)
  obtain ⟨_, a3, e3, r3⟩ := o_int (h := h) _ _ _ g3 k3
  have e3 : c3 = .int .i64 a3 := by have : [c3] = [Value.int .i64 a3] := e3; simpa using this
  subst e3
  obtain ⟨_, _, g4, k4⟩ := struct_get Tryz.underlying127 hx hl (i := 4) rfl (k := 1) (by kernel_rfl)
  obtain ⟨_, a4, e4, r4⟩ := o_int (h := h) _ _ _ g4 k4
  have e4 : c4 = .int .i64 a4 := by have : [c4] = [Value.int .i64 a4] := e4; simpa using this
  subst e4
  obtain ⟨_, _, g5, k5⟩ := struct_get Tryz.underlying127 hx hl (i := 5) rfl (k := 1) (by kernel_rfl)
  obtain ⟨_, a5, v5, e5, r5⟩ := o_inss hh _ _ _ g5 k5
  have e5 : c5 = v5 := by have : [c5] = [v5] := e5; simpa using this
  subst e5
  obtain ⟨_, _, g6, k6⟩ := struct_get Tryz.underlying127 hx hl (i := 6) rfl (k := 1) (by kernel_rfl)
  obtain ⟨_, a6, v6, e6, r6⟩ := o_shps hh _ _ _ g6 k6
  have e6 : c6 = v6 := by have : [c6] = [v6] := e6; simpa using this
  subst e6
  obtain ⟨_, _, g7, k7⟩ := struct_get Tryz.underlying127 hx hl (i := 7) rfl (k := 1) (by kernel_rfl)
  obtain ⟨_, a7, v7, e7, r7⟩ := o_ctcs hh _ _ _ g7 k7
  have e7 : c7 = v7 := by have : [c7] = [v7] := e7; simpa using this
  subst e7
  exact ⟨rfl, ⟨a0, a1, a2, a3, a4, a5, a6, a7⟩, _, _, _, _, rfl, r0, r1, r3, r4, r2, r5, r6, r7⟩
theorem o_mths (hh : ∀ b, h b = w.heap[b]?) : Opens enc Tryz.prog w base spare held h 23 1 (OneOf (Row 8 MthR)) :=
  opens_row Tryz.underlying23 (by kernel_rfl) (by omega) (of_decide_eq_true (by kernel_rfl)) (o_mth hh) hh
theorem o_unt (hh : ∀ b, h b = w.heap[b]?) : Opens enc Tryz.prog w base spare held h 25 2 UntR := by
  intro fuel cs x hx hl
  have hlen := struct_len Tryz.underlying25 hx (k := 2) (by kernel_rfl)
  obtain ⟨c0, c1, rfl⟩ : ∃ c0 c1, cs = [c0, c1] := by match cs, hlen with | [c0, c1], _ => exact ⟨c0, c1, rfl⟩
  obtain ⟨_, _, g0, k0⟩ := struct_get Tryz.underlying25 hx hl (i := 0) rfl (k := 1) (by kernel_rfl)
  obtain ⟨_, a0, v0, e0, r0⟩ := o_clss hh _ _ _ g0 k0
  have e0 : c0 = v0 := by have : [c0] = [v0] := e0; simpa using this
  subst e0
  obtain ⟨_, _, g1, k1⟩ := struct_get Tryz.underlying25 hx hl (i := 1) rfl (k := 1) (by kernel_rfl)
  obtain ⟨_, a1, v1, e1, r1⟩ := o_mths hh _ _ _ g1 k1
  have e1 : c1 = v1 := by have : [c1] = [v1] := e1; simpa using this
  subst e1
  exact ⟨rfl, ⟨a0, a1⟩, _, _, rfl, r0, r1⟩
end
end Go.Proofs
