/- The drawn words, and the laws of words. -/
import Derived.Test.YtfihllhldnaofaaWdBase
import Derived.Test.YtfihllhldnaofaaRdBase
namespace Go.Proofs
open Go.Vc
set_option maxRecDepth 100000
theorem l6Open_c (v : Value) (n : Nat) (h : Heap) (hB : Bytes h v n) (hn : n ≤ 1000000000000000) :
    Rets Try.prog 17 [v] h fun r h' => ∃ bb vb m, r = .pointer (some ⟨bb, 0, none⟩) ∧ h bb = none ∧ h' = rdr h bb vb 0 ∧ Bytes h vb m ∧ m ≤ 2000 := by
  obtain ⟨p, c, rfl, hc, hB⟩ := hB
  refine rets Try.sigOk Try.func17 Try.F17 Try.ok17 rfl ?_
  conv => whnf
  refine selP (fun h1 => ?_) (fun h1 => ?_)
  all_goals conv => whnf
  · refine ob (by omega) ?_
    conv => whnf
    refine new fun bb hb => ?_
    conv => whnf
    exact ⟨bb, _, 2000, rfl, hb, rfl, ⟨p, c, rfl, by omega, .inr (by
      rcases hB with hB | ⟨b, off, rfl, hB⟩
      · omega
      · exact ⟨b, off, rfl, fun i hi => hB i (by omega)⟩)⟩, by omega⟩
  · refine new fun bb hb => ?_
    conv => whnf
    exact ⟨bb, _, n, rfl, hb, rfl, ⟨p, c, rfl, hc, hB⟩, by omega⟩
/-- What a drawing function leaves: a number, and the reader some places on. -/
def Draws (P : Program) (f : FuncId) (args : List Value) (h : Heap) (bb : Nat) (vb : Value) (p : Int) (k : Int) (A : Value → Prop) : Prop :=
  Rets P f args (rdr h bb vb p) fun v h' => ∃ q, A v ∧ h' = rdr h bb vb q ∧ p ≤ q ∧ q ≤ p + k
theorem l71Word_c (bb n : Nat) (vb : Value) (p : Int) (h : Heap) (hbb : h bb = none) (hB : Bytes h vb n) (hp : 0 ≤ p) (hp1 : p ≤ 100000000000) (hn : n ≤ 2000) :
    Draws Try.prog 19 [.pointer (some ⟨bb, 0, none⟩)] h bb vb p 2 fun v => ∃ x : Int, v = .int .i64 x ∧ -128 ≤ x ∧ x ≤ 127 := by
  refine rets Try.sigOk Try.func19 Try.F19 Try.ok19 rfl ?_
  conv => whnf
  refine call_r (pick_c bb n vb p _ h hbb hB (by omega) (by omega) (by omega)) ?_
  rintro v h' ⟨x, rfl, x0, x1, _, rfl⟩
  conv => whnf
  refine selP (fun h1 => ?_) (fun h1 => ?_)
  all_goals conv => whnf
  · refine call_r (pick_c bb n vb _ _ h hbb hB (by omega) (by omega) (by omega)) ?_
    rintro v h' ⟨y, rfl, y0, y1, _, rfl⟩
    have hy : y = 0 ∨ y = 1 ∨ y = 2 ∨ y = 3 ∨ y = 4 ∨ y = 5 := by omega
    rcases hy with rfl | rfl | rfl | rfl | rfl | rfl
    all_goals
      conv => whnf
      refine ob (by omega) ?_
      conv => whnf
      exact ⟨_, ⟨_, rfl, by omega, by omega⟩, rfl, by omega, by omega⟩
  · refine call_r (pick_c bb n vb _ _ h hbb hB (by omega) (by omega) (by omega)) ?_
    rintro v h' ⟨y, rfl, y0, y1, _, rfl⟩
    conv => whnf
    refine ar_in (by omega) (by omega) ?_
    conv => whnf
    exact ⟨_, ⟨_, rfl, by omega, by omega⟩, rfl, by omega, by omega⟩
theorem rdr_le {h : Heap} {bb : Nat} {vb : Value} {p : Int} (hbb : h bb = none) : Heap.le h (rdr h bb vb p) := Heap.le_set _ hbb
theorem DrawIntDo_c (v : Value) (n : Nat) (h : Heap) (hB : Bytes h v n) (hn : n ≤ 1000000000000000) :
    Rets Try.prog 8 [v] h fun r h' => ∃ op a b : Int, r = .tuple #[.int .i64 op, .int .i64 a, .int .i64 b] ∧ h' = h := by
  refine retsL Try.sigOk Try.func8 Try.F8 Try.ok8 rfl ?_
  conv => whnf
  refine call_r (l6Open_c v n h hB hn) ?_
  rintro r h' ⟨bb, vb, m, rfl, hbb, rfl, hV, hm⟩
  have hle : ∀ q, Heap.le h (rdr h bb vb q) := fun q => rdr_le hbb
  conv => whnf
  repeat' ((first
    | (refine call_r (pick_c bb m vb _ _ h hbb hV (by omega) (by omega) (by omega)) ?_; rintro v h' ⟨x, rfl, x0, x1, _, rfl⟩)
    | (refine call_r (l71Word_c bb m vb _ h hbb hV (by omega) (by omega) (by omega)) ?_; rintro v h' ⟨q, ⟨x, rfl, x0, x1⟩, rfl, q0, q1⟩)
    | refine selP (fun h1 => ?_) (fun h1 => ?_)
    | refine ob (by omega) ?_
    | refine ar_any ?_) <;> conv => whnf)
  all_goals exact ⟨h, hle _, _, _, _, rfl, rfl⟩
theorem FnExactIntDo_c (op a b : Int) (h : Heap) : Pure Try.prog 3 [.int .i64 op, .int .i64 a, .int .i64 b] h (.bool true) := by
  refine pur Try.sigOk Try.func3 Try.F3 Try.ok3 rfl ?_
  generalize hx : intDo op a b = x
  conv => whnf
  refine call_p (hx ▸ sIntDo_c _ _ _ _) ?_
  conv => whnf
  refine call_p (hx ▸ iIntDo_c _ _ _ _) ?_
  obtain ⟨x1, x2⟩ := x
  conv => whnf
  refine selNP (fun h1 => absurd rfl h1) (fun _ => ?_)
  conv => whnf
  cases x2
  all_goals
    conv => whnf
    exact ⟨rfl, rfl⟩
theorem w8_ex (x : Int) : ∃ k : Int, w8 x = x + 256 * k := ⟨-((x + 128) / 256), by unfold w8; omega⟩
theorem w8_of {x y k : Int} (h : x = y + 256 * k) (hy : -128 ≤ y ∧ y ≤ 127) : w8 x = y := by unfold w8; omega
theorem divmod {a b : Int} (hb : -128 ≤ b ∧ b ≤ 127) (h0 : b ≠ 0) : w8 (a - w8 (w8 (a.tdiv b) * b)) = a.tmod b := by
  obtain ⟨k1, h1⟩ := w8_ex (a.tdiv b)
  obtain ⟨k2, h2⟩ := w8_ex (w8 (a.tdiv b) * b)
  have h3 := Int.mul_tdiv_add_tmod a b
  have h4 : (a.tmod b).natAbs < b.natAbs := by rw [Int.natAbs_tmod]; exact Nat.mod_lt _ (by omega)
  refine w8_of (k := -(k1 * b + k2)) ?_ (by omega)
  rw [h2, h1]
  grind
theorem tmod_small {a b : Int} (h0 : b ≠ 0) : mx (a.tmod b) (0 - a.tmod b) < mx b (0 - b) := by
  have h4 : (a.tmod b).natAbs < b.natAbs := by rw [Int.natAbs_tmod]; exact Nat.mod_lt _ (by omega)
  unfold mx
  split <;> split <;> omega
theorem tmod_sign (a b : Int) : 0 ≤ a.tmod b * a := by
  rcases Int.le_total 0 a with h | h
  · exact Int.mul_nonneg (Int.tmod_nonneg _ h) h
  · have h2 : a.tmod b ≤ 0 := by
      have := Int.tmod_nonneg (a := -a) b (by omega)
      rw [Int.neg_tmod] at this; omega
    have := Int.mul_nonneg (a := -(a.tmod b)) (b := -a) (by omega) (by omega)
    grind
theorem FnIntDiv_c (v : Value) (n : Nat) (h : Heap) (hB : Bytes h v n) (hn : n ≤ 1000000000000000) : Pure Try.prog 4 [v] h (.bool true) := by
  have hB0 := hB
  obtain ⟨p, c, rfl, _, _⟩ := hB0
  refine pur Try.sigOk Try.func4 Try.F4 Try.ok4 rfl ?_
  conv => whnf
  refine selP (fun h1 => ?_) (fun h1 => ?_)
  all_goals conv => whnf
  · exact ⟨rfl, rfl⟩
  refine call_r (DrawIntDo_c _ n h hB hn) ?_
  rintro r h' ⟨op, a, b, rfl, rfl⟩
  conv => whnf
  generalize hx : intDo op a b = x
  refine call_p (hx ▸ iIntDo_c op a b _) ?_
  conv => whnf
  refine call_p (hx ▸ sIntDo_c op a b _) ?_
  obtain ⟨x1, x2⟩ := x
  conv => whnf
  refine selNP (fun h1 => absurd rfl h1) (fun _ => ?_)
  have hbb : ∀ t f : Prop, (x2 = x2 → f) → @Bool.rec (fun _ => Prop) f t (x2 != x2) := fun t f hf => by cases x2 <;> exact hf rfl
  conv => whnf
  refine hbb _ _ (fun _ => ?_)
  conv => whnf
  refine call_p (iIntWrap_c _ _) ?_
  conv => whnf
  have hret : ∀ (t f : Prop), f → @Bool.rec (fun _ => Prop) f t (x2 != x2) := fun t f hf => by cases x2 <;> exact hf
  refine selNP (fun h2 => ?_) (fun h2 => ?_)
  · repeat' ((first
      | refine selP (fun _ => ?_) (fun hne => absurd rfl hne)) <;> conv => whnf)
    all_goals (cases x2 <;> exact ⟨rfl, rfl⟩)
  conv => whnf
  refine call_p (iIntWrap_c _ _) ?_
  conv => whnf
  refine selNP (fun h3 => ?_) (fun h3 => ?_)
  · repeat' ((first
      | refine selP (fun _ => ?_) (fun hne => absurd rfl hne)) <;> conv => whnf)
    all_goals (cases x2 <;> exact ⟨rfl, rfl⟩)
  have wa : isWord a = true := isWord_iff.2 (by have := w8_in a; omega)
  have wb : isWord b = true := isWord_iff.2 (by have := w8_in b; omega)
  have ha := isWord_iff.1 wa
  have hb := isWord_iff.1 wb
  conv => whnf
  by_cases hz : b = 0
  · have hq : intDo 4 a b = (0, false) := intDo_no (by omega)
    refine call_p (hq ▸ iIntDo_c 4 a b _) ?_
    conv => whnf
    repeat' ((first
      | refine selP (fun _ => ?_) (fun hne => absurd ‹_› hne)
      | refine selP (fun _ => ?_) (fun hne => absurd rfl hne)) <;> conv => whnf)
    all_goals exact ⟨rfl, rfl⟩
  · have hq : intDo 4 a b = (w8 (a.tdiv b), true) := by rw [intDo_yes wa wb]; simp [hz]
    have wq : isWord (w8 (a.tdiv b)) = true := isWord_iff.2 (w8_in _)
    have hm : intDo 3 (w8 (a.tdiv b)) b = (w8 (w8 (a.tdiv b) * b), true) := by rw [intDo_yes wq wb]; simp
    have wm : isWord (w8 (w8 (a.tdiv b) * b)) = true := isWord_iff.2 (w8_in _)
    have hr : intDo 2 a (w8 (w8 (a.tdiv b) * b)) = (a.tmod b, true) := by rw [intDo_yes wa wm]; simp [divmod hb hz]
    have h6 : (a.tmod b).natAbs < b.natAbs := by rw [Int.natAbs_tmod]; exact Nat.mod_lt _ (by omega)
    have h7 := mul_in (a := a.tmod b) (b := a) (by omega) ha
    have h8 := tmod_small (a := a) hz
    have h9 := tmod_sign a b
    have c1 := iIntDo_c 4 a b h'
    rw [hq] at c1
    have c2 := iIntDo_c 3 (w8 (a.tdiv b)) b h'
    rw [hm] at c2
    have c3 := iIntDo_c 2 a (w8 (w8 (a.tdiv b) * b)) h'
    rw [hr] at c3
    simp only [prI] at c1 c2 c3
    refine call_p c1 ?_
    conv => whnf
    refine selP (fun h => absurd h hz) (fun _ => ?_)
    conv => whnf
    refine call_p c2 ?_
    conv => whnf
    refine call_p c3 ?_
    conv => whnf
    repeat' ((first
      | refine ar_in (by omega) (by omega) ?_
      | refine selP (fun _ => ?_) (fun hne => absurd h8 hne)) <;> conv => whnf)
    exact ⟨by simp [h9], rfl⟩
set_option maxHeartbeats 1000000 in
theorem FnIntRing_c (v u : Value) (n m : Nat) (h : Heap) (hB : Bytes h v n) (hn : n ≤ 1000000000000000) (hC : Bytes h u m) (hm : m ≤ 1000000000000000) : Pure Try.prog 5 [v, u] h (.bool true) := by
  have hB0 := hB
  obtain ⟨p, c, rfl, _, _⟩ := hB0
  have hC0 := hC
  obtain ⟨p', c', rfl, _, _⟩ := hC0
  refine pur Try.sigOk Try.func5 Try.F5 Try.ok5 rfl ?_
  conv => whnf
  refine selP (fun h1 => ?_) (fun h1 => ?_)
  all_goals conv => whnf
  · exact ⟨rfl, rfl⟩
  refine selP (fun h1 => ?_) (fun h1 => ?_)
  all_goals conv => whnf
  · exact ⟨rfl, rfl⟩
  refine call_r (DrawIntDo_c _ n h hB hn) ?_
  rintro r h' ⟨op, a, b, rfl, rfl⟩
  conv => whnf
  refine call_r (DrawIntDo_c _ m _ hC hm) ?_
  rintro r h'' ⟨op', d, b', rfl, rfl⟩
  conv => whnf
  have ci := iIntDo_c op a b h''
  have cs := sIntDo_c op a b h''
  generalize intDo op a b = x at ci cs
  obtain ⟨x1, x2⟩ := x
  simp only [prI] at ci cs
  refine call_p ci ?_
  conv => whnf
  refine call_p cs ?_
  conv => whnf
  refine selNP (fun h1 => absurd rfl h1) (fun _ => ?_)
  have hret : ∀ (t f : Prop), f → @Bool.rec (fun _ => Prop) f t (x2 != x2) := fun t f hf => by cases x2 <;> exact hf
  conv => whnf
  refine hret _ _ ?_
  conv => whnf
  by_cases hall : isWord a = true ∧ isWord b = true ∧ isWord d = true
  · obtain ⟨wa, wb, wd⟩ := hall
    have ea := w8_id (isWord_iff.1 wa)
    have eb := w8_id (isWord_iff.1 wb)
    have ed := w8_id (isWord_iff.1 wd)
    have w : ∀ z, isWord (w8 z) = true := fun z => isWord_iff.2 (w8_in z)
    have c1 := iIntDo_c 1 a b h''
    have c2 := iIntDo_c 1 b d h''
    have c3 := iIntDo_c 3 a b h''
    have c4 := iIntDo_c 3 a d h''
    have c5 := iIntDo_c 3 a (w8 (b + d)) h''
    have c6 := iIntDo_c 1 (w8 (a * b)) (w8 (a * d)) h''
    have c7 := iIntDo_c 2 (w8 (a + b)) b h''
    rw [intDo_yes (by assumption) (by assumption)] at c1 c2 c3 c4
    rw [intDo_yes wa (w _)] at c5
    rw [intDo_yes (w _) (w _)] at c6
    rw [intDo_yes (w _) wb] at c7
    simp [prI] at c1 c2 c3 c4 c5 c6 c7
    have e1 : w8 (a * w8 (b + d)) = w8 (w8 (a * b) + w8 (a * d)) := by
      obtain ⟨k1, h1⟩ := w8_ex (b + d)
      obtain ⟨k2, h2⟩ := w8_ex (a * b)
      obtain ⟨k3, h3⟩ := w8_ex (a * d)
      obtain ⟨k4, h4⟩ := w8_ex (w8 (a * b) + w8 (a * d))
      refine w8_of (k := a * k1 - k2 - k3 - k4) ?_ (w8_in _)
      rw [h4, h2, h3, h1]
      grind
    have e2 : w8 (w8 (a + b) - b) = a := by
      obtain ⟨k1, h1⟩ := w8_ex (a + b)
      exact w8_of (k := k1) (by omega) (isWord_iff.1 wa)
    refine call_p (iIntWrap_c _ _) ?_
    conv => whnf
    refine selNP (fun h => absurd ea h) (fun _ => ?_)
    conv => whnf
    refine call_p (iIntWrap_c _ _) ?_
    conv => whnf
    refine selNP (fun h => absurd eb h) (fun _ => ?_)
    conv => whnf
    refine call_p (iIntWrap_c _ _) ?_
    conv => whnf
    refine selNP (fun h => absurd ed h) (fun _ => ?_)
    conv => whnf
    refine call_p c1 ?_
    conv => whnf
    refine call_p c2 ?_
    conv => whnf
    refine call_p c3 ?_
    conv => whnf
    refine call_p c4 ?_
    conv => whnf
    refine call_p c5 ?_
    conv => whnf
    refine call_p c6 ?_
    conv => whnf
    refine call_p c7 ?_
    conv => whnf
    refine selP (fun _ => ?_) (fun h => absurd e1 h)
    conv => whnf
    exact ⟨by simp [e2], rfl⟩
  · have hno : w8 a ≠ a ∨ w8 b ≠ b ∨ w8 d ≠ d := by
      have := w8_in a
      have := w8_in b
      have := w8_in d
      simp only [isWord_iff] at hall
      omega
    refine call_p (iIntWrap_c _ _) ?_
    conv => whnf
    refine selNP (fun h2 => ?_) (fun h2 => ?_)
    · conv => whnf
      refine selP (fun _ => ?_) (fun hne => absurd rfl hne)
      conv => whnf
      cases x2 <;> exact ⟨rfl, rfl⟩
    conv => whnf
    refine call_p (iIntWrap_c _ _) ?_
    conv => whnf
    refine selNP (fun h3 => ?_) (fun h3 => ?_)
    · conv => whnf
      refine selP (fun _ => ?_) (fun hne => absurd rfl hne)
      conv => whnf
      cases x2 <;> exact ⟨rfl, rfl⟩
    conv => whnf
    refine call_p (iIntWrap_c _ _) ?_
    conv => whnf
    refine selNP (fun h4 => ?_) (fun h4 => ?_)
    · conv => whnf
      refine selP (fun _ => ?_) (fun hne => absurd rfl hne)
      conv => whnf
      cases x2 <;> exact ⟨rfl, rfl⟩
    · exfalso; omega
end Go.Proofs
