/- The reader of a code: what l6Open and pick do. -/
import Derived.Test.YtfihllhldnaofaaFacts
import Derived.Test.YtfihllhldnaofaaVcRules
namespace Go.Proofs
open Go.Vc
set_option maxRecDepth 100000
/-- A value reads as a slice of n bytes. -/
def Bytes (h : Heap) (v : Value) (n : Nat) : Prop := ∃ p c, v = .slice p n c ∧ n ≤ c ∧ (n = 0 ∨ ∃ b off, p = some ⟨b, off, none⟩ ∧ ∀ i, i < n → ∃ x : Int, rd h b (off + i) = some (.int .u8 x) ∧ 0 ≤ x ∧ x < 256)
theorem Heap.set_set (h : Heap) (b : Nat) (o o' : Obj) : (Heap.set h b o).set b o' = Heap.set h b o' := by
  funext c; simp only [Heap.set]; split <;> rfl
theorem rd_some {h : Heap} {b off : Nat} {v : Value} (hr : rd h b off = some v) : h b ≠ none := by
  intro hn; simp [rd, hn] at hr
theorem Bytes.set {h : Heap} {v : Value} {n bb : Nat} (hB : Bytes h v n) (hbb : h bb = none) (o : Obj) : Bytes (h.set bb o) v n := by
  obtain ⟨p, c, rfl, hc, hB⟩ := hB
  refine ⟨p, c, rfl, hc, hB.imp id ?_⟩
  rintro ⟨b, off, rfl, hx⟩
  refine ⟨b, off, rfl, fun i hi => ?_⟩
  obtain ⟨x, h1, h2⟩ := hx i hi
  have hne : b ≠ bb := by rintro rfl; exact rd_some h1 hbb
  exact ⟨x, by rw [rd_ne hne]; exact h1, h2⟩
/-- The view with a reader at its place. -/
def rdr (h : Heap) (bb : Nat) (vb : Value) (p : Int) : Heap := h.set bb (.cells #[vb, .int .i64 p] 41)
theorem tmod_in {a b : Int} (h : 0 ≤ a) (hb : 0 < b) : 0 ≤ a.tmod b ∧ a.tmod b < b := by
  rw [Int.tmod_eq_emod_of_nonneg h]; exact ⟨Int.emod_nonneg _ (by omega), Int.emod_lt_of_pos _ hb⟩
theorem tdiv_in {a b : Int} (h : 0 ≤ a) (hb : 0 < b) : 0 ≤ a.tdiv b ∧ a.tdiv b ≤ a := by
  rw [Int.tdiv_eq_ediv_of_nonneg h]; exact ⟨Int.ediv_nonneg h (by omega), Int.ediv_le_self _ h⟩
theorem xor_nonneg {a b : Int} (ha : 0 ≤ a) (ha1 : a < 9223372036854775808) (hb : 0 ≤ b) (hb1 : b < 9223372036854775808) : 0 ≤ bits2 .xor .i64 a b := by
  unfold bits2
  simp only
  have h : (BitVec.ofInt IntKind.i64.bits a ^^^ BitVec.ofInt IntKind.i64.bits b).toNat < 2 ^ 63 := by
    rw [BitVec.toNat_xor]
    have e : ∀ z : Int, 0 ≤ z → z < 9223372036854775808 → (BitVec.ofInt IntKind.i64.bits z).toNat < 2 ^ 63 := by
      intro z h0 h1
      rw [BitVec.toNat_ofInt]
      show (z % ((2 ^ 64 : Nat) : Int)).toNat < 2 ^ 63
      rw [Int.emod_eq_of_lt h0 (by omega)]
      omega
    exact Nat.xor_lt_two_pow (e a ha ha1) (e b hb hb1)
  rw [wrap_i64 (by omega) (by omega)]
  omega
theorem pick_c (bb n : Nat) (vb : Value) (p k : Int) (h : Heap) (hbb : h bb = none) (hB : Bytes h vb n) (hp : 0 ≤ p) (hp1 : p ≤ 1000000000000) (hn : n ≤ 1000000000000) :
    Rets Try.prog 18 [.pointer (some ⟨bb, 0, none⟩), .int .i64 k] (rdr h bb vb p) fun v h' => ∃ x, v = .int .i64 x ∧ 0 ≤ x ∧ (1 ≤ k → x < k) ∧ (k < 1 → x = 0) ∧ h' = rdr h bb vb (p + 1) := by
  refine rets Try.sigOk Try.func18 Try.F18 Try.ok18 rfl ?_
  have hb : (rdr h bb vb p) bb = some (.cells #[vb, .int .i64 p] 41) := by simp [rdr, Heap.set]
  have hB' := hB.set hbb (.cells #[vb, .int .i64 p] 41)
  change Bytes (rdr h bb vb p) vb n at hB'
  have hset : ∀ q, (rdr h bb vb p).set bb (.cells #[vb, .int .i64 q] 41) = rdr h bb vb q := fun q => Heap.set_set _ _ _ _
  have hR := hset (p + 1)
  clear hset hB hbb
  generalize rdr h bb vb (p + 1) = h'' at *
  generalize rdr h bb vb p = h at *
  subst hR
  have hB := hB'
  clear hB'
  obtain ⟨q, c, rfl, _, hB⟩ := hB
  conv => whnf
  refine ld (v := .int .i64 p) (by simp [rd, hb]) ?_
  conv => whnf
  refine ar_in (by omega) (by omega) ?_
  conv => whnf
  refine st hb (by simp) ?_
  conv => whnf
  refine selP (fun h1 => ?_) (fun h1 => ?_)
  all_goals conv => whnf
  · exact ⟨0, rfl, by omega, by omega, by omega, rfl⟩
  refine ld (v := .slice q n c) (by simp [rd, Heap.set, wrls, wrl]) ?_
  conv => whnf
  refine selP (fun h2 => ?_) (fun h2 => ?_)
  all_goals conv => whnf
  · exact ⟨0, rfl, by omega, by omega, by omega, rfl⟩
  have hr1 : rd (h.set bb (.cells (wrls #[Value.slice q n c, .int .i64 p].toList (0 + 1) [.int .i64 (p + 1)]).toArray 41)) bb (0 + 1) = some (.int .i64 (p + 1)) := by simp [rd, Heap.set, wrls, wrl]
  have hr0 : rd (h.set bb (.cells (wrls #[Value.slice q n c, .int .i64 p].toList (0 + 1) [.int .i64 (p + 1)]).toArray 41)) bb 0 = some (.slice q n c) := by simp [rd, Heap.set, wrls, wrl]
  rcases hB with hB | ⟨b, off, rfl, hB⟩
  · exact absurd (by omega) h2
  have hby : ∀ i, i < n → ∃ x : Int, rd (h.set bb (.cells (wrls #[Value.slice (some ⟨b, off, none⟩) n c, .int .i64 p].toList (0 + 1) [.int .i64 (p + 1)]).toArray 41)) b (off + i) = some (.int .u8 x) ∧ 0 ≤ x ∧ x < 256 := by
    intro i hi
    obtain ⟨x, h3, h4⟩ := hB i hi
    have hne : b ≠ bb := by
      intro he
      subst he
      simp only [rd, hb] at h3
      match he : off + i, h3 with
      | 0, h3 => simp at h3
      | 1, h3 => simp at h3
      | m + 2, h3 => simp at h3
    exact ⟨x, by rw [rd_ne hne]; exact h3, h4⟩
  have hbi : ∀ i : Int, 0 ≤ i → i < n → ∃ x : Int, rd (h.set bb (.cells (wrls #[Value.slice (some ⟨b, off, none⟩) n c, .int .i64 p].toList (0 + 1) [.int .i64 (p + 1)]).toArray 41)) b (off + i.toNat * 1) = some (.int .u8 x) ∧ 0 ≤ x ∧ x < 256 := by
    intro i h4 h5
    rw [Nat.mul_one]
    exact hby i.toNat (by omega)
  have hfin : h.set bb (.cells (wrls #[Value.slice (some ⟨b, off, none⟩) n c, .int .i64 p].toList (0 + 1) [.int .i64 (p + 1)]).toArray 41) = h.set bb (.cells #[.slice (some ⟨b, off, none⟩) n c, .int .i64 (p + 1)] 41) := rfl
  refine ld hr1 ?_
  conv => whnf
  refine ar_in (by omega) (by omega) ?_
  conv => whnf
  refine ld hr0 ?_
  conv => whnf
  refine selP (fun h3 => ?_) (fun h3 => ?_)
  all_goals conv => whnf
  · refine ld hr0 ?_
    conv => whnf
    refine ob (by omega) ?_
    conv => whnf
    obtain ⟨x, hx, hx0, hx1⟩ := hbi (p + 1 - 1) (by omega) (by omega)
    refine ld hx ?_
    conv => whnf
    refine ar_in (by omega) (by omega) ?_
    conv => whnf
    refine ob (by omega) ?_
    conv => whnf
    have ht : x.tmod k = x % k := Int.tmod_eq_emod_of_nonneg hx0
    exact ⟨x.tmod k, rfl, by rw [ht]; exact Int.emod_nonneg _ (by omega), fun h => by rw [ht]; exact Int.emod_lt_of_pos _ (by omega), by omega, rfl⟩
  · have t1 := tmod_in (a := p + 1 - 1) (b := n) (by omega) (by omega)
    have t2 := tmod_in (a := (p + 1 - 1) * 7 + 3) (b := n) (by omega) (by omega)
    have t3 := tdiv_in (a := p + 1 - 1) (b := n) (by omega) (by omega)
    obtain ⟨x, hx, hx0, hx1⟩ := hbi _ t1.1 t1.2
    obtain ⟨y, hy, hy0, hy1⟩ := hbi _ t2.1 t2.2
    have t4 := tdiv_in (a := x * 131 + y * 1117 + (p + 1 - 1) * 29 + (p + 1 - 1).tdiv n * 53) (b := 64) (by omega) (by omega)
    repeat' ((first
      | refine ld hr0 ?_
      | refine ld hr1 ?_
      | refine ar_in (by omega) (by omega) ?_
      | refine ob (by omega) ?_
      | refine ld hx ?_
      | refine ld hy ?_) <;> conv => whnf)
    have ht : ∀ z : Int, 0 ≤ z → z.tmod k = z % k := fun z hz => Int.tmod_eq_emod_of_nonneg hz
    have hz : 0 ≤ bits2 .xor .i64 (x * 131 + y * 1117 + (p + 1 - 1) * 29 + (p + 1 - 1).tdiv n * 53) ((x * 131 + y * 1117 + (p + 1 - 1) * 29 + (p + 1 - 1).tdiv n * 53).tdiv 64) := by
      refine xor_nonneg (by omega) (by omega) ?_ ?_
      · exact (tdiv_in (by omega) (by omega)).1
      · have := (tdiv_in (a := x * 131 + y * 1117 + (p + 1 - 1) * 29 + (p + 1 - 1).tdiv n * 53) (b := 64) (by omega) (by omega)).2
        omega
    exact ⟨_, rfl, by rw [ht _ hz]; exact Int.emod_nonneg _ (by omega), fun h => by rw [ht _ hz]; exact Int.emod_lt_of_pos _ (by omega), by omega, rfl⟩

end Go.Proofs
