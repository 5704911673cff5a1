/- Part 5 of the lemmas on which the law rests: what functions of the program and of the reference do; no conditions but those that each lemma states. -/
import Derived.Test.YtcaoejkpbmiklaaGreatMg4
namespace Go.Proofs
open Go.Vc
set_option maxRecDepth 100000
set_option maxHeartbeats 4000000
def OwnN (_ : Heap) (x : List Value) (a : Int) (B : List Nat) : Prop := x = int1 a ∧ B = []
theorem keptN : Kept OwnN := fun _ _ _ _ _ _ h => h
theorem inN : InH OwnN := fun _ _ _ _ h b hb => by rw [h.2] at hb; cases hb
theorem rowsN {h : Heap} : ∀ l : List Int, Rows OwnN h (l.map int1) l []
  | [] => .nil
  | a :: l => by have := Rows.cons (R := OwnN) (h := h) (x := int1 a) (a := a) (B1 := []) ⟨rfl, rfl⟩ (rowsN l); simpa using this
theorem own_said {h : Heap} {v : Value} {l : List Int} {B : List Nat} (ho : OwnI h v l B) : OwnL OwnN 1 h v l B := ⟨_, B, [], ho, rowsN l, by simp⟩
theorem rowsN_inv {h : Heap} {xs : List (List Value)} {l : List Int} {B : List Nat} (hr : Rows OwnN h xs l B) : xs = l.map int1 ∧ B = [] := by
  induction hr with
  | nil => exact ⟨rfl, rfl⟩
  | cons h1 _ ih => obtain ⟨rfl, rfl⟩ := h1; obtain ⟨rfl, rfl⟩ := ih; exact ⟨rfl, rfl⟩
theorem said_own {h : Heap} {v : Value} {l : List Int} {B : List Nat} (ho : OwnL OwnN 1 h v l B) : OwnI h v l B := by
  obtain ⟨xs, B0, B1, h1, h2, rfl⟩ := ho
  obtain ⟨rfl, rfl⟩ := rowsN_inv h2
  simpa using h1
theorem MaH.growO {h0 h : Heap} {bm : Nat} {pre post : List Value} {M : Mch} {B : List Nat} (hM : MaH h0 h bm pre post M B) (hl : M.objs.length ≤ 1000) :
    ∃ t p c vf vs, h bm = some (.cells (pre ++ mcells (.slice p M.objs.length c) vf vs M ++ post).toArray t (0, 0)) ∧
      ∀ {bytes : Nat} {zero : List Value} {el : TypeId} {m' : Nat} (a : Ob) (Bv : List Nat) (y : List Value) (K : Value → Heap → Prop), OwnO h y a Bv → Nd Bv → (∀ b ∈ Bv, b ∉ bm :: B ∧ h0 b = none) → m' = 1 → y.length = 2 → cellsOk y = true → zero.length = 2 → bytes ≤ 1000 →
        (∀ p' c' h2', h2' bm = h bm → (∀ b, b ∉ B → b ∉ Bv → h b ≠ none → h2' b = h b) → h0.le h2' → (∃ B', MaH h0 (h2'.set bm (.cells (pre ++ mcells (.slice p' (M.objs.length + 1) c') vf vs M ++ post).toArray t (0, 0))) bm pre post { M with objs := M.objs ++ [a] } B' ∧
          Ev h (h2'.set bm (.cells (pre ++ mcells (.slice p' (M.objs.length + 1) c') vf vs M ++ post).toArray t (0, 0))) ((bm :: B) ++ Bv) (bm :: B')) → K (.slice p' (M.objs.length + 1) c') h2') → App bytes 2 zero el h p M.objs.length c m' y K := by
  have nd := hM.nd
  have hin := hM.in
  have hle := hM.le
  have hfr := hM.fr
  obtain ⟨t, vo, vf, vs, B1, B2, B3, hb, h1, h2, h3, rfl, reb⟩ := hM.whole
  obtain ⟨p, c, rfl, hc⟩ := h1.form
  refine ⟨t, p, c, vf, vs, hb, ?_⟩
  intro bytes zero el m' a Bv y K k1 k2 k3 k4 k5 k6 k7 k8 k9
  have hv : ∀ b ∈ Bv, b ∉ B1 ∧ b ∉ B2 ∧ b ∉ B3 ∧ b ≠ bm := by
    intro b hb'
    have := k3 b hb'
    simp at this
    grind
  have hB : ∀ b ∈ B1, b ∉ B2 ∧ b ∉ B3 ∧ b ≠ bm := by
    intro b hb'
    have hp := List.count_pos_iff.2 hb'
    have hn := nd b
    simp only [List.count_append, List.count_cons] at hn
    refine ⟨fun hx => ?_, fun hx => ?_, ?_⟩
    · have := List.count_pos_iff.2 hx; omega
    · have := List.count_pos_iff.2 hx; omega
    · rintro rfl; simp at hn; omega
  have hbm : bm ∉ B1 ++ B2 ++ B3 := by
    intro hx
    have := List.count_pos_iff.2 hx
    have hn := nd bm
    simp only [List.count_cons, beq_self_eq_true, if_true] at hn
    omega
  have hnd1 : Nd (B1 ++ B2 ++ B3) := nd.less fun a => by simp only [List.count_cons]; omega
  have hndv : Nd (B1 ++ Bv) := by
    have := Nd.swap (A := B1) (X := B2 ++ B3) (X' := Bv) (hnd1.perm fun a => by simp only [List.count_append]; omega) k2 (fun b hb' => .inr (by have := hv b hb'; grind))
    exact this
  refine app_ownL keptO inO (h0 := h0) h1 k1 hndv (fun b hb' => ?_) hle k4 k5 k6 k7 (by have := Nat.mul_le_mul (show M.objs.length + 1 ≤ 1001 by omega) k8; omega) (by omega) ?_
  · rcases List.mem_append.1 hb' with hb' | hb'
    · exact hfr b (by simp [hb'])
    · exact (k3 b hb').2
  intro v' h2' B1' g1 g2 g3 g4 g5
  obtain ⟨p', c', rfl, _⟩ := g2.form
  have hlen : (M.objs ++ [a]).length = M.objs.length + 1 := by simp
  rw [hlen] at g2 ⊢
  have same : ∀ b, b ∉ B1 → b ∉ Bv → h b ≠ none → h2' b = h b := fun b n1 n2 n3 => g5.old b n3 (by simp [n1, n2])
  have e1 : h2' bm = h bm := same bm (fun hx => hbm (by simp [hx])) (fun hx => (hv _ hx).2.2.2 rfl) (by rw [hb]; simp)
  refine k9 p' c' h2' e1 (fun b n1 n2 n3 => same b (fun hx => n1 (by simp [hx])) n2 n3) g1 ?_
  have n1' : bm ∉ B1' := by
    intro hx
    rcases g5.new bm hx with hy | hy
    · rcases List.mem_append.1 hy with hy | hy
      · exact hbm (by simp [hy])
      · exact (hv _ hy).2.2.2 rfl
    · rw [hb] at hy; cases hy
  have keepset : ∀ C : List Nat, (∀ b ∈ C, b ≠ bm ∧ b ∉ B1 ∧ b ∉ Bv) → Keep h (h2'.set bm (.cells (pre ++ mcells (.slice p' (M.objs.length + 1) c') vf vs M ++ post).toArray t (0, 0))) C := by
    intro C hC b hb' o ho
    have := hC b hb'
    simp only [Heap.set, this.1, if_false]
    rw [same b this.2.1 this.2.2 (by rw [ho]; simp)]; exact ho
  have d0 : ∀ b ∈ B2, b ≠ bm ∧ b ∉ B1 ∧ b ∉ Bv := fun b hb' => ⟨fun hx => hbm (by simp [← hx, hb']), fun hx => by have := hB b hx; grind, fun hx => by have := hv b hx; grind⟩
  have d1 : ∀ b ∈ B3, b ≠ bm ∧ b ∉ B1 ∧ b ∉ Bv := fun b hb' => ⟨fun hx => hbm (by simp [← hx, hb']), fun hx => by have := hB b hx; grind, fun hx => by have := hv b hx; grind⟩
  have hev : Ev h (h2'.set bm (.cells (pre ++ mcells (.slice p' (M.objs.length + 1) c') vf vs M ++ post).toArray t (0, 0))) ((bm :: (B1 ++ B2 ++ B3)) ++ Bv) (bm :: (B1' ++ B2 ++ B3)) := by
    refine ⟨fun b hb' hn => ?_, fun b hb' => ?_⟩
    · have : b ≠ bm := fun hx => hn (by simp [hx])
      simp only [Heap.set, this, if_false]
      exact same b (fun hx => hn (by simp [hx])) (fun hx => hn (by simp [hx])) hb'
    · have : b ∈ B1' ∨ b ∈ bm :: (B2 ++ B3) := by simp at hb' ⊢; grind
      rcases this with hx | hx
      · exact (g5.new b hx).imp (fun hy => by simp at hy ⊢; grind) id
      · exact .inl (by simp at hx ⊢; grind)
  have hnd' : Nd (bm :: (B1' ++ B2 ++ B3)) := by
    have := Nd.swap (A := bm :: (B2 ++ B3)) (X := B1) (X' := B1') (nd.perm fun a => by simp only [List.count_append, List.count_cons]; omega) g3 (fun b hb' => ?_)
    · exact this.perm fun a => by simp only [List.count_append, List.count_cons]; omega
    · rcases g5.new b hb' with hx | hx
      · rcases List.mem_append.1 hx with hx | hx
        · exact .inl hx
        · have := hv b hx; exact .inr (by simp; grind)
      · refine .inr fun hy => ?_
        obtain ⟨o, ho⟩ := hin b (by simp at hy ⊢; grind)
        rw [hx] at ho; cases ho
  refine ⟨B1' ++ B2 ++ B3, ⟨Heap.le_set_free g1 (hfr bm (by simp)), ⟨mcells (.slice p' (M.objs.length + 1) c') vf vs M, t, by simp [Heap.set], _, vf, vs, B1', B2, B3, rfl, ?_, ?_, ?_, rfl⟩, hnd', ?_⟩, hev⟩
  · refine g2.keep keptO fun b hb' o ho => ?_
    have : b ≠ bm := by rintro rfl; exact n1' hb'
    simp only [Heap.set, this, if_false]; exact ho
  · exact h2.keep keptF (keepset B2 d0)
  · exact h3.keep (keepset B3 d1)
  · intro b hb'
    have : b ∈ B1' ∨ b ∈ bm :: (B1 ++ B2 ++ B3) := by simp at hb' ⊢; grind
    rcases this with hx | hx
    · exact g4 b hx
    · exact hfr b hx
theorem MaH.growF {h0 h : Heap} {bm : Nat} {pre post : List Value} {M : Mch} {B : List Nat} (hM : MaH h0 h bm pre post M B) (hl : M.frames.length ≤ 1000) :
    ∃ t p c vo vs, h bm = some (.cells (pre ++ mcells vo (.slice p M.frames.length c) vs M ++ post).toArray t (0, 0)) ∧
      ∀ {bytes : Nat} {zero : List Value} {el : TypeId} {m' : Nat} (a : Frm) (Bv : List Nat) (y : List Value) (K : Value → Heap → Prop), OwnF h y a Bv → Nd Bv → (∀ b ∈ Bv, b ∉ bm :: B ∧ h0 b = none) → m' = 1 → y.length = 4 → cellsOk y = true → zero.length = 4 → bytes ≤ 1000 →
        (∀ p' c' h2', h2' bm = h bm → (∀ b, b ∉ B → b ∉ Bv → h b ≠ none → h2' b = h b) → h0.le h2' → (∃ B', MaH h0 (h2'.set bm (.cells (pre ++ mcells vo (.slice p' (M.frames.length + 1) c') vs M ++ post).toArray t (0, 0))) bm pre post { M with frames := M.frames ++ [a] } B' ∧
          Ev h (h2'.set bm (.cells (pre ++ mcells vo (.slice p' (M.frames.length + 1) c') vs M ++ post).toArray t (0, 0))) ((bm :: B) ++ Bv) (bm :: B')) → K (.slice p' (M.frames.length + 1) c') h2') → App bytes 4 zero el h p M.frames.length c m' y K := by
  have nd := hM.nd
  have hin := hM.in
  have hle := hM.le
  have hfr := hM.fr
  obtain ⟨t, vo, vf, vs, B1, B2, B3, hb, h1, h2, h3, rfl, reb⟩ := hM.whole
  obtain ⟨p, c, rfl, hc⟩ := h2.form
  refine ⟨t, p, c, vo, vs, hb, ?_⟩
  intro bytes zero el m' a Bv y K k1 k2 k3 k4 k5 k6 k7 k8 k9
  have hv : ∀ b ∈ Bv, b ∉ B1 ∧ b ∉ B2 ∧ b ∉ B3 ∧ b ≠ bm := by
    intro b hb'
    have := k3 b hb'
    simp at this
    grind
  have hB : ∀ b ∈ B2, b ∉ B1 ∧ b ∉ B3 ∧ b ≠ bm := by
    intro b hb'
    have hp := List.count_pos_iff.2 hb'
    have hn := nd b
    simp only [List.count_append, List.count_cons] at hn
    refine ⟨fun hx => ?_, fun hx => ?_, ?_⟩
    · have := List.count_pos_iff.2 hx; omega
    · have := List.count_pos_iff.2 hx; omega
    · rintro rfl; simp at hn; omega
  have hbm : bm ∉ B1 ++ B2 ++ B3 := by
    intro hx
    have := List.count_pos_iff.2 hx
    have hn := nd bm
    simp only [List.count_cons, beq_self_eq_true, if_true] at hn
    omega
  have hnd1 : Nd (B1 ++ B2 ++ B3) := nd.less fun a => by simp only [List.count_cons]; omega
  have hndv : Nd (B2 ++ Bv) := by
    have := Nd.swap (A := B2) (X := B1 ++ B3) (X' := Bv) (hnd1.perm fun a => by simp only [List.count_append]; omega) k2 (fun b hb' => .inr (by have := hv b hb'; grind))
    exact this
  refine app_ownL keptF inF (h0 := h0) h2 k1 hndv (fun b hb' => ?_) hle k4 k5 k6 k7 (by have := Nat.mul_le_mul (show M.frames.length + 1 ≤ 1001 by omega) k8; omega) (by omega) ?_
  · rcases List.mem_append.1 hb' with hb' | hb'
    · exact hfr b (by simp [hb'])
    · exact (k3 b hb').2
  intro v' h2' B2' g1 g2 g3 g4 g5
  obtain ⟨p', c', rfl, _⟩ := g2.form
  have hlen : (M.frames ++ [a]).length = M.frames.length + 1 := by simp
  rw [hlen] at g2 ⊢
  have same : ∀ b, b ∉ B2 → b ∉ Bv → h b ≠ none → h2' b = h b := fun b n1 n2 n3 => g5.old b n3 (by simp [n1, n2])
  have e1 : h2' bm = h bm := same bm (fun hx => hbm (by simp [hx])) (fun hx => (hv _ hx).2.2.2 rfl) (by rw [hb]; simp)
  refine k9 p' c' h2' e1 (fun b n1 n2 n3 => same b (fun hx => n1 (by simp [hx])) n2 n3) g1 ?_
  have n1' : bm ∉ B2' := by
    intro hx
    rcases g5.new bm hx with hy | hy
    · rcases List.mem_append.1 hy with hy | hy
      · exact hbm (by simp [hy])
      · exact (hv _ hy).2.2.2 rfl
    · rw [hb] at hy; cases hy
  have keepset : ∀ C : List Nat, (∀ b ∈ C, b ≠ bm ∧ b ∉ B2 ∧ b ∉ Bv) → Keep h (h2'.set bm (.cells (pre ++ mcells vo (.slice p' (M.frames.length + 1) c') vs M ++ post).toArray t (0, 0))) C := by
    intro C hC b hb' o ho
    have := hC b hb'
    simp only [Heap.set, this.1, if_false]
    rw [same b this.2.1 this.2.2 (by rw [ho]; simp)]; exact ho
  have d0 : ∀ b ∈ B1, b ≠ bm ∧ b ∉ B2 ∧ b ∉ Bv := fun b hb' => ⟨fun hx => hbm (by simp [← hx, hb']), fun hx => by have := hB b hx; grind, fun hx => by have := hv b hx; grind⟩
  have d1 : ∀ b ∈ B3, b ≠ bm ∧ b ∉ B2 ∧ b ∉ Bv := fun b hb' => ⟨fun hx => hbm (by simp [← hx, hb']), fun hx => by have := hB b hx; grind, fun hx => by have := hv b hx; grind⟩
  have hev : Ev h (h2'.set bm (.cells (pre ++ mcells vo (.slice p' (M.frames.length + 1) c') vs M ++ post).toArray t (0, 0))) ((bm :: (B1 ++ B2 ++ B3)) ++ Bv) (bm :: (B1 ++ B2' ++ B3)) := by
    refine ⟨fun b hb' hn => ?_, fun b hb' => ?_⟩
    · have : b ≠ bm := fun hx => hn (by simp [hx])
      simp only [Heap.set, this, if_false]
      exact same b (fun hx => hn (by simp [hx])) (fun hx => hn (by simp [hx])) hb'
    · have : b ∈ B2' ∨ b ∈ bm :: (B1 ++ B3) := by simp at hb' ⊢; grind
      rcases this with hx | hx
      · exact (g5.new b hx).imp (fun hy => by simp at hy ⊢; grind) id
      · exact .inl (by simp at hx ⊢; grind)
  have hnd' : Nd (bm :: (B1 ++ B2' ++ B3)) := by
    have := Nd.swap (A := bm :: (B1 ++ B3)) (X := B2) (X' := B2') (nd.perm fun a => by simp only [List.count_append, List.count_cons]; omega) g3 (fun b hb' => ?_)
    · exact this.perm fun a => by simp only [List.count_append, List.count_cons]; omega
    · rcases g5.new b hb' with hx | hx
      · rcases List.mem_append.1 hx with hx | hx
        · exact .inl hx
        · have := hv b hx; exact .inr (by simp; grind)
      · refine .inr fun hy => ?_
        obtain ⟨o, ho⟩ := hin b (by simp at hy ⊢; grind)
        rw [hx] at ho; cases ho
  refine ⟨B1 ++ B2' ++ B3, ⟨Heap.le_set_free g1 (hfr bm (by simp)), ⟨mcells vo (.slice p' (M.frames.length + 1) c') vs M, t, by simp [Heap.set], vo, _, vs, B1, B2', B3, rfl, ?_, ?_, ?_, rfl⟩, hnd', ?_⟩, hev⟩
  · exact h1.keep keptO (keepset B1 d0)
  · refine g2.keep keptF fun b hb' o ho => ?_
    have : b ≠ bm := by rintro rfl; exact n1' hb'
    simp only [Heap.set, this, if_false]; exact ho
  · exact h3.keep (keepset B3 d1)
  · intro b hb'
    have : b ∈ B2' ∨ b ∈ bm :: (B1 ++ B2 ++ B3) := by simp at hb' ⊢; grind
    rcases this with hx | hx
    · exact g4 b hx
    · exact hfr b hx
theorem MaH.growS {h0 h : Heap} {bm : Nat} {pre post : List Value} {M : Mch} {B : List Nat} (hM : MaH h0 h bm pre post M B) (hl : M.said.length ≤ 1000) :
    ∃ t p c vo vf, h bm = some (.cells (pre ++ mcells vo vf (.slice p M.said.length c) M ++ post).toArray t (0, 0)) ∧
      ∀ {bytes : Nat} {zero : List Value} {el : TypeId} {m' : Nat} (a : Int) (Bv : List Nat) (y : List Value) (K : Value → Heap → Prop), OwnN h y a Bv → Nd Bv → (∀ b ∈ Bv, b ∉ bm :: B ∧ h0 b = none) → m' = 1 → y.length = 1 → cellsOk y = true → zero.length = 1 → bytes ≤ 1000 →
        (∀ p' c' h2', h2' bm = h bm → (∀ b, b ∉ B → b ∉ Bv → h b ≠ none → h2' b = h b) → h0.le h2' → (∃ B', MaH h0 (h2'.set bm (.cells (pre ++ mcells vo vf (.slice p' (M.said.length + 1) c') M ++ post).toArray t (0, 0))) bm pre post { M with said := M.said ++ [a] } B' ∧
          Ev h (h2'.set bm (.cells (pre ++ mcells vo vf (.slice p' (M.said.length + 1) c') M ++ post).toArray t (0, 0))) ((bm :: B) ++ Bv) (bm :: B')) → K (.slice p' (M.said.length + 1) c') h2') → App bytes 1 zero el h p M.said.length c m' y K := by
  have nd := hM.nd
  have hin := hM.in
  have hle := hM.le
  have hfr := hM.fr
  obtain ⟨t, vo, vf, vs, B1, B2, B3, hb, h1, h2, h3, rfl, reb⟩ := hM.whole
  have h3 : OwnL OwnN 1 h vs M.said B3 := own_said h3
  obtain ⟨p, c, rfl, hc⟩ := h3.form
  refine ⟨t, p, c, vo, vf, hb, ?_⟩
  intro bytes zero el m' a Bv y K k1 k2 k3 k4 k5 k6 k7 k8 k9
  have hv : ∀ b ∈ Bv, b ∉ B1 ∧ b ∉ B2 ∧ b ∉ B3 ∧ b ≠ bm := by
    intro b hb'
    have := k3 b hb'
    simp at this
    grind
  have hB : ∀ b ∈ B3, b ∉ B1 ∧ b ∉ B2 ∧ b ≠ bm := by
    intro b hb'
    have hp := List.count_pos_iff.2 hb'
    have hn := nd b
    simp only [List.count_append, List.count_cons] at hn
    refine ⟨fun hx => ?_, fun hx => ?_, ?_⟩
    · have := List.count_pos_iff.2 hx; omega
    · have := List.count_pos_iff.2 hx; omega
    · rintro rfl; simp at hn; omega
  have hbm : bm ∉ B1 ++ B2 ++ B3 := by
    intro hx
    have := List.count_pos_iff.2 hx
    have hn := nd bm
    simp only [List.count_cons, beq_self_eq_true, if_true] at hn
    omega
  have hnd1 : Nd (B1 ++ B2 ++ B3) := nd.less fun a => by simp only [List.count_cons]; omega
  have hndv : Nd (B3 ++ Bv) := by
    have := Nd.swap (A := B3) (X := B1 ++ B2) (X' := Bv) (hnd1.perm fun a => by simp only [List.count_append]; omega) k2 (fun b hb' => .inr (by have := hv b hb'; grind))
    exact this
  refine app_ownL keptN inN (h0 := h0) h3 k1 hndv (fun b hb' => ?_) hle k4 k5 k6 k7 (by have := Nat.mul_le_mul (show M.said.length + 1 ≤ 1001 by omega) k8; omega) (by omega) ?_
  · rcases List.mem_append.1 hb' with hb' | hb'
    · exact hfr b (by simp [hb'])
    · exact (k3 b hb').2
  intro v' h2' B3' g1 g2 g3 g4 g5
  obtain ⟨p', c', rfl, _⟩ := g2.form
  have hlen : (M.said ++ [a]).length = M.said.length + 1 := by simp
  rw [hlen] at g2 ⊢
  have same : ∀ b, b ∉ B3 → b ∉ Bv → h b ≠ none → h2' b = h b := fun b n1 n2 n3 => g5.old b n3 (by simp [n1, n2])
  have e1 : h2' bm = h bm := same bm (fun hx => hbm (by simp [hx])) (fun hx => (hv _ hx).2.2.2 rfl) (by rw [hb]; simp)
  refine k9 p' c' h2' e1 (fun b n1 n2 n3 => same b (fun hx => n1 (by simp [hx])) n2 n3) g1 ?_
  have n1' : bm ∉ B3' := by
    intro hx
    rcases g5.new bm hx with hy | hy
    · rcases List.mem_append.1 hy with hy | hy
      · exact hbm (by simp [hy])
      · exact (hv _ hy).2.2.2 rfl
    · rw [hb] at hy; cases hy
  have keepset : ∀ C : List Nat, (∀ b ∈ C, b ≠ bm ∧ b ∉ B3 ∧ b ∉ Bv) → Keep h (h2'.set bm (.cells (pre ++ mcells vo vf (.slice p' (M.said.length + 1) c') M ++ post).toArray t (0, 0))) C := by
    intro C hC b hb' o ho
    have := hC b hb'
    simp only [Heap.set, this.1, if_false]
    rw [same b this.2.1 this.2.2 (by rw [ho]; simp)]; exact ho
  have d0 : ∀ b ∈ B1, b ≠ bm ∧ b ∉ B3 ∧ b ∉ Bv := fun b hb' => ⟨fun hx => hbm (by simp [← hx, hb']), fun hx => by have := hB b hx; grind, fun hx => by have := hv b hx; grind⟩
  have d1 : ∀ b ∈ B2, b ≠ bm ∧ b ∉ B3 ∧ b ∉ Bv := fun b hb' => ⟨fun hx => hbm (by simp [← hx, hb']), fun hx => by have := hB b hx; grind, fun hx => by have := hv b hx; grind⟩
  have hev : Ev h (h2'.set bm (.cells (pre ++ mcells vo vf (.slice p' (M.said.length + 1) c') M ++ post).toArray t (0, 0))) ((bm :: (B1 ++ B2 ++ B3)) ++ Bv) (bm :: (B1 ++ B2 ++ B3')) := by
    refine ⟨fun b hb' hn => ?_, fun b hb' => ?_⟩
    · have : b ≠ bm := fun hx => hn (by simp [hx])
      simp only [Heap.set, this, if_false]
      exact same b (fun hx => hn (by simp [hx])) (fun hx => hn (by simp [hx])) hb'
    · have : b ∈ B3' ∨ b ∈ bm :: (B1 ++ B2) := by simp at hb' ⊢; grind
      rcases this with hx | hx
      · exact (g5.new b hx).imp (fun hy => by simp at hy ⊢; grind) id
      · exact .inl (by simp at hx ⊢; grind)
  have hnd' : Nd (bm :: (B1 ++ B2 ++ B3')) := by
    have := Nd.swap (A := bm :: (B1 ++ B2)) (X := B3) (X' := B3') (nd.perm fun a => by simp only [List.count_append, List.count_cons]; omega) g3 (fun b hb' => ?_)
    · exact this.perm fun a => by simp only [List.count_append, List.count_cons]; omega
    · rcases g5.new b hb' with hx | hx
      · rcases List.mem_append.1 hx with hx | hx
        · exact .inl hx
        · have := hv b hx; exact .inr (by simp; grind)
      · refine .inr fun hy => ?_
        obtain ⟨o, ho⟩ := hin b (by simp at hy ⊢; grind)
        rw [hx] at ho; cases ho
  refine ⟨B1 ++ B2 ++ B3', ⟨Heap.le_set_free g1 (hfr bm (by simp)), ⟨mcells vo vf (.slice p' (M.said.length + 1) c') M, t, by simp [Heap.set], vo, vf, _, B1, B2, B3', rfl, ?_, ?_, ?_, rfl⟩, hnd', ?_⟩, hev⟩
  · exact h1.keep keptO (keepset B1 d0)
  · exact h2.keep keptF (keepset B2 d1)
  · refine said_own (?_)
    refine g2.keep keptN fun b hb' o ho => ?_
    have : b ≠ bm := by rintro rfl; exact n1' hb'
    simp only [Heap.set, this, if_false]; exact ho
  · intro b hb'
    have : b ∈ B3' ∨ b ∈ bm :: (B1 ++ B2 ++ B3) := by simp at hb' ⊢; grind
    rcases this with hx | hx
    · exact g4 b hx
    · exact hfr b hx
end Go.Proofs
namespace Go.Proofs
open Go.Vc
set_option maxRecDepth 100000
set_option maxHeartbeats 4000000
theorem MaH.setBm {h0 h : Heap} {bm : Nat} {pre post : List Value} {M M' : Mch} {B B' : List Nat} {t : TypeId} {mc : List Value} (hM : MaH h0 h bm pre post M B) (ho : OwnM h mc M' B') (hc : ∀ a, B'.count a ≤ B.count a) :
    MaH h0 (h.set bm (.cells (pre ++ mc ++ post).toArray t (0, 0))) bm pre post M' B' ∧ Ev h (h.set bm (.cells (pre ++ mc ++ post).toArray t (0, 0))) (bm :: B) (bm :: B') := by
  have hmem : ∀ b, b ∈ bm :: B' → b ∈ bm :: B := by
    intro b hb
    have := List.count_pos_iff.2 hb
    refine List.count_pos_iff.1 ?_
    have := hc b
    simp only [List.count_cons] at *
    omega
  have hnb : bm ∉ B' := by
    intro hx
    have h1 := List.count_pos_iff.2 hx
    have h2 := hc bm
    have h3 := hM.nd bm
    simp only [List.count_cons, beq_self_eq_true, if_true] at h3
    omega
  refine ⟨⟨Heap.le_set_free hM.le (hM.fr bm (by simp)), ⟨mc, t, set_get _ _ _, ho.keep fun b hb o ho => ?_⟩, hM.nd.less fun a => by have := hc a; simp only [List.count_cons]; omega, fun b hb => hM.fr b (hmem b hb)⟩, ⟨fun b hb hn => ?_, fun b hb => .inl (hmem b hb)⟩⟩
  · have : b ≠ bm := by rintro rfl; exact hnb hb
    simp only [Heap.set, this, if_false]; exact ho
  · have : b ≠ bm := fun hx => hn (by simp [hx])
    simp only [Heap.set, this, if_false]
theorem MaH.popF {h0 h : Heap} {bm : Nat} {pre post : List Value} {M : Mch} {B : List Nat} {fs : List Frm} {f : Frm} (hM : MaH h0 h bm pre post M B) (hf : M.frames = fs ++ [f]) :
    ∃ t p c vo vs, h bm = some (.cells (pre ++ mcells vo (.slice p (fs.length + 1) c) vs M ++ post).toArray t (0, 0)) ∧ fs.length + 1 ≤ c ∧
      ∃ B', MaH h0 (h.set bm (.cells (pre ++ mcells vo (.slice p fs.length c) vs M ++ post).toArray t (0, 0))) bm pre post { M with frames := fs } B' ∧ Ev h (h.set bm (.cells (pre ++ mcells vo (.slice p fs.length c) vs M ++ post).toArray t (0, 0))) (bm :: B) (bm :: B') := by
  obtain ⟨t, vo, vf, vs, B1, B2, B3, hb, h1, h2, h3, rfl, reb⟩ := hM.whole
  rw [hf] at h2
  obtain ⟨p, c, rfl, hc⟩ := h2.form
  obtain ⟨hn, B2', h2', hcnt⟩ := h2.pop
  have hlen : (fs ++ [f]).length = fs.length + 1 := by simp
  rw [hlen] at hb hc
  have hset := hM.setBm (M' := { M with frames := fs }) (mc := mcells vo (.slice p fs.length c) vs M) (t := t) (B' := B1 ++ B2' ++ B3) ⟨vo, _, vs, B1, B2', B3, rfl, h1, h2', h3, rfl⟩ (fun a => by have := hcnt a; simp only [List.count_append]; omega)
  exact ⟨t, p, c, vo, vs, hb, hc, _, hset⟩
theorem MaH.ints {h0 h : Heap} {bm : Nat} {pre post : List Value} {M : Mch} {B : List Nat} (hM : MaH h0 h bm pre post M B) :
    ∃ t vo vf vs, h bm = some (.cells (pre ++ mcells vo vf vs M ++ post).toArray t (0, 0)) ∧ (∃ p c, vo = .slice p M.objs.length c) ∧ (∃ p c, vf = .slice p M.frames.length c) ∧ (∃ p c, vs = .slice p M.said.length c) ∧
      ∀ M' : Mch, M'.objs = M.objs → M'.frames = M.frames → M'.said = M.said →
        MaH h0 (h.set bm (.cells (pre ++ mcells vo vf vs M' ++ post).toArray t (0, 0))) bm pre post M' B ∧ Ev h (h.set bm (.cells (pre ++ mcells vo vf vs M' ++ post).toArray t (0, 0))) (bm :: B) (bm :: B) := by
  obtain ⟨t, vo, vf, vs, B1, B2, B3, hb, h1, h2, h3, rfl, reb⟩ := hM.whole
  obtain ⟨ps, cs, e3, _⟩ := h3.form
  refine ⟨t, vo, vf, vs, hb, ?_, ?_, ⟨ps, cs, by rw [e3]; simp⟩, fun M' k1 k2 k3 => ?_⟩
  · obtain ⟨p, c, e, _⟩ := h1.form; exact ⟨p, c, e⟩
  · obtain ⟨p, c, e, _⟩ := h2.form; exact ⟨p, c, e⟩
  · exact hM.setBm (mc := mcells vo vf vs M') ⟨vo, vf, vs, B1, B2, B3, rfl, by rw [k1]; exact h1, by rw [k2]; exact h2, by rw [k3]; exact h3, rfl⟩ (fun a => Nat.le_refl _)
theorem newStepper_c (h0 h : Heap) (bm : Nat) (us : List Value) (u : Unt) (fs : List Frm) (f : Frm) (M : Mch) (B : List Nat) (hM : MaH h0 h bm [] [] M B) (hu : UntR h0 us u) (hf : M.frames = fs ++ [f]) (hm : 0 ≤ f.meth ∧ f.meth < u.methods.length) (hl : M.frames.length ≤ 1000) :
    Rets Tryz.prog 188 [.agg ⟨us⟩, .pointer (some ⟨bm, 0, none⟩)] h fun v h' => h.le h' ∧ ∃ bs bf off, v = .pointer (some ⟨bs, 0, none⟩) ∧ h bs = none ∧ SpH h0 h' bs bm bf off u (mth u f.meth) fs f M B := by
  have hu1 := hu.le hM.le
  obtain ⟨vo, vs, bf, c, tm, t, q, r, v1, v2, Bo, B1, B2, hb, hbf, hq, o1, o2, nd, hin, hmem, reb⟩ := hM.top hf
  obtain ⟨p, cc, q', d, rfl, hcs, hms, hl1, hl2⟩ := hu1.form
  have hlf : M.frames.length = fs.length + 1 := by rw [hf]; simp
  have r1 : rd h bm 1 = some (.slice (some ⟨bf, 0, none⟩) (fs.length + 1) c) := rd_mid hb (i := 1) (by simp) rfl
  have r2 : rd h bf (fs.length * 4) = some (.int .i64 f.meth) := rd_mid hbf (i := 0) (by omega) rfl
  have hi : f.meth.toNat < u.methods.length := by omega
  have e0 := (hu.form)
  obtain ⟨p', cc', q2', d', he, _, hms0, _⟩ := e0
  simp only [List.cons.injEq, Value.slice.injEq, true_and, and_true] at he
  obtain ⟨⟨rfl, rfl⟩, rfl, rfl⟩ := he
  have e := hms0.get hi
  obtain ⟨bb, off, ms, hq2, e1, e2⟩ := e
  have hme : mth u f.meth = u.methods[f.meth.toNat] := mth_eq hi (by omega)
  have e20 := e2
  obtain ⟨p1, c1, p2, c2, p3, c3, p4, c4, e3, _⟩ := e2.form
  subst e3
  have e1' := rdn_le' hM.le e1
  have hidx : 0 + (((fs.length + 1 : Nat) : Int) - 1).toNat * 4 = fs.length * 4 := by omega
  have r2' : rd h bf (0 + (((fs.length + 1 : Nat) : Int) - 1).toNat * 4) = some (.int .i64 f.meth) := by rw [hidx]; exact r2
  refine rets Tryz.sigOk Tryz.func188 Tryz.F188 Tryz.ok188 rfl ?_
  conv => whnf
  repeat' ((first | refine ld r1 ?_ | refine ld r2' ?_ | refine ptr' hq2 ?_ | refine ldn e1' ?_ | refine ob (by omega) ?_ | refine ar_in (by omega) (by omega) ?_ | refine ptr ?_) <;> conv => whnf)
  refine new' (stp bf (0 + (((fs.length + 1 : Nat) : Int) - 1).toNat * 4) bm [.int .i64 u.methods[f.meth.toNat].cls, .int .i64 u.methods[f.meth.toNat].sel, .slice p1 u.methods[f.meth.toNat].args.length c1, .int .i64 u.methods[f.meth.toNat].out, .int .i64 u.methods[f.meth.toNat].locals, .slice p2 u.methods[f.meth.toNat].code.length c2, .slice p3 u.methods[f.meth.toNat].shapes.length c3, .slice p4 u.methods[f.meth.toNat].catches.length c4]
    [.slice p u.classes.length cc, .slice q' u.methods.length d]) rfl (fun bs h1 hbs hh l1 hg => ?_)
  conv => whnf
  have hM1 := hM.mono l1
  refine ⟨l1, bs, bf, _, rfl, hbs, ⟨hM1, hf, ⟨hidx, c, rd_le l1 r1⟩, ⟨_, _, _, hg, hu, by rw [hme]; exact e20⟩, fun hx => ?_⟩⟩
  obtain ⟨o, ho⟩ := hM.in bs hx
  rw [hbs] at ho; cases ho
end Go.Proofs
namespace Go.Proofs
open Go.Vc
set_option maxRecDepth 100000
set_option maxHeartbeats 4000000
theorem MaH.lens {h0 h : Heap} {bm : Nat} {pre post : List Value} {M : Mch} {B : List Nat} {fs : List Frm} {f : Frm} (hM : MaH h0 h bm pre post M B) (hf : M.frames = fs ++ [f]) :
    ∃ tm vo vs bf c t q r v1 v2 B1 B2, h bm = some (.cells (pre ++ mcells vo (.slice (some ⟨bf, 0, none⟩) (fs.length + 1) c) vs M ++ post).toArray tm (0, 0)) ∧
      h bf = some (.cells (q ++ [.int .i64 f.meth, .int .i64 f.pc, v1, v2] ++ r).toArray t (0, 0)) ∧ q.length = fs.length * 4 ∧ OwnV h v1 f.locals B1 ∧ OwnV h v2 f.stack B2 ∧ Nd (B1 ++ B2) ∧ (∀ b ∈ bf :: (B1 ++ B2), h0 b = none ∧ b ∈ B) ∧
      (∀ b, b ∈ B1 ++ B2 → b ≠ bf ∧ b ≠ bm) ∧ bf ≠ bm ∧
      ∀ h' f' v1' v2' B1' B2', h' bf = some (.cells (q ++ [.int .i64 f'.meth, .int .i64 f'.pc, v1', v2'] ++ r).toArray t (0, 0)) → (∀ b, b ∉ bf :: (B1 ++ B2) → h b ≠ none → h' b = h b) → OwnV h' v1' f'.locals B1' → OwnV h' v2' f'.stack B2' →
        (∀ b ∈ B1' ++ B2', b ∈ B1 ++ B2 ∨ h b = none) → Nd (B1' ++ B2') → ∃ B', MaH h0 h' bm pre post { M with frames := fs ++ [f'] } B' ∧ Ev h h' (bm :: B) (bm :: B') := by
  obtain ⟨vo, vs, bf, c, tm, t, q, r, v1, v2, Bo, B1, B2, hb, hbf, hq, o1, o2, nd, hin, hmem, reb⟩ := hM.top hf
  have hcnt : ∀ a, (bm :: bf :: (Bo ++ B1 ++ B2)).count a ≤ 1 := nd
  have ne1 : ∀ b, b ∈ B1 ++ B2 → b ≠ bf ∧ b ≠ bm ∧ b ∉ Bo := by
    intro b hb'
    have hp := List.count_pos_iff.2 hb'
    have hc := hcnt b
    simp only [List.count_append, List.count_cons] at hp hc
    refine ⟨?_, ?_, ?_⟩
    · rintro rfl; simp at hc; omega
    · rintro rfl; simp at hc; omega
    · intro hx; have := List.count_pos_iff.2 hx; omega
  have ne2 : bf ≠ bm := by
    rintro rfl
    have hc := hcnt bf
    simp [List.count_cons] at hc
  have hmB : ∀ b, b ≠ bm → b ∈ bm :: bf :: (Bo ++ B1 ++ B2) → b ∈ B := by
    intro b hne hb'
    have := (hmem b).2 hb'
    simpa [hne] using this
  refine ⟨tm, vo, vs, bf, c, t, q, r, v1, v2, B1, B2, hb, hbf, hq, o1, o2, ?_, ?_, fun b hb' => ⟨(ne1 b hb').1, (ne1 b hb').2.1⟩, ne2, ?_⟩
  · exact nd.less fun a => by simp only [List.count_append, List.count_cons]; omega
  · intro b hb'
    have hx : b ∈ bm :: bf :: (Bo ++ B1 ++ B2) := by simp at hb' ⊢; grind
    refine ⟨hM.fr b ((hmem b).2 hx), hmB b ?_ hx⟩
    rcases List.mem_cons.1 hb' with rfl | hb'
    · exact ne2
    · exact (ne1 b hb').2.1
  intro h' f' v1' v2' B1' B2' k1 k2 k3 k4 k5 k6
  have hbm : h' bm = h bm := k2 bm (by simp only [List.mem_cons, not_or]; exact ⟨fun hx => ne2 hx.symm, fun hx => (ne1 _ hx).2.1 rfl⟩) (by rw [hb]; simp)
  have hbo : ∀ b ∈ Bo, b ∉ bf :: (B1 ++ B2) := by
    intro b hb' hx
    rcases List.mem_cons.1 hx with rfl | hx
    · have hc := hcnt b
      have := List.count_pos_iff.2 hb'
      simp only [List.count_append, List.count_cons] at hc
      simp at hc
      omega
    · exact (ne1 b hx).2.2 hb'
  have hkeep : Keep h h' Bo := fun b hb' o ho => by rw [k2 b (hbo b hb') (by rw [ho]; simp)]; exact ho
  have hnd : Nd (bm :: bf :: (Bo ++ B1' ++ B2')) := by
    have := Nd.swap (A := bm :: bf :: Bo) (X := B1 ++ B2) (X' := B1' ++ B2') (nd.perm fun a => by simp only [List.count_append, List.count_cons]; omega) k6 (fun b hb' => ?_)
    · exact this.perm fun a => by simp only [List.count_append, List.count_cons]; omega
    · rcases k5 b hb' with hx | hx
      · exact .inl hx
      · refine .inr fun hy => ?_
        obtain ⟨o, ho⟩ := hin b (by simp at hy ⊢; grind)
        rw [hx] at ho; cases ho
  have hev : Ev h h' (bm :: B) (bm :: bf :: (Bo ++ B1' ++ B2')) := by
    refine ⟨fun b hb' hn => ?_, fun b hb' => ?_⟩
    · refine k2 b (fun hx => hn ((hmem b).2 (by simp at hx ⊢; grind))) hb'
    · have : b ∈ B1' ++ B2' ∨ b ∈ bm :: bf :: Bo := by simp at hb' ⊢; grind
      rcases this with hx | hx
      · rcases k5 b hx with hy | hy
        · exact .inl ((hmem b).2 (by simp at hy ⊢; grind))
        · exact .inr hy
      · exact .inl ((hmem b).2 (by simp at hx ⊢; grind))
  exact reb h' f' v1' v2' B1' B2' hbm k1 k3 k4 hkeep hnd hev
theorem st1 {h : Heap} {b off : Nat} {pre x post : List Value} {v : Value} {t : TypeId} {K : Heap → Prop} (hb : h b = some (.cells (pre ++ x ++ post).toArray t (0, 0))) {i : Nat} (hn : off = pre.length + i) (hi : i < x.length)
    (hk : K (h.set b (.cells (pre ++ x.set i v ++ post).toArray t (0, 0)))) : St h b off [v] K := by
  refine st hb (by simp; omega) ?_
  rw [wr_mid hn hi]; exact hk
def callF (u : Unt) (to : Int) (took : List Vl) : Frm := ⟨to, 0, took ++ List.replicate ((mth u to).locals.toNat - took.length) noVl, []⟩
def callS (u : Unt) (to : Int) (took : List Vl) (M : Mch) : Except Int Mch := if 4 ≤ M.frames.length then .error 6 else .ok { M with frames := M.frames ++ [callF u to took] }
def EndH (h0 h : Heap) (bm : Nat) (B : List Nat) (r : Except Int Mch) : Out → Heap → Prop := fun o h' => match o with
  | .ret _ => ∃ M', r = .ok M' ∧ ∃ B', MaH h0 h' bm [] [] M' B' ∧ Ev h h' (bm :: B) (bm :: B')
  | .pan c => ∃ k, r = .error k ∧ c = wrongP k ∧ Pn h0 bm h'
theorem flat_zeros (n : Nat) : (List.replicate n noVl).map vl2 = List.replicate n [Value.bool false, .int .i64 0] := by rw [List.map_replicate]; rfl
theorem callFr_c (h0 h : Heap) (bs bm bf off : Nat) (u : Unt) (m : Mth) (fs : List Frm) (f : Frm) (M : Mch) (B : List Nat) (to : Int) (took : List Vl) (vt : Value) (Bt : List Nat) (hS : SpH h0 h bs bm bf off u m fs f M B)
    (ot : OwnV h vt took Bt) (hbt : ∀ b ∈ Bt, b ∉ bm :: B ∧ b ≠ bs) (hto : 0 ≤ to ∧ to < u.methods.length) (hloc : (took.length : Int) ≤ (mth u to).locals ∧ (mth u to).locals ≤ 3) :
    CallsH Tryz.prog 252 [.pointer (some ⟨bs, 0, none⟩), .int .i64 to, vt] h (EndH h0 h bm B (callS u to took M)) := by
  obtain ⟨pt, ct, rfl, _⟩ := ot.form
  have hlt := len_map vl2 took
  obtain ⟨r1, r2, ⟨c0, r3⟩, p, cc, q, d, hu, r9, r10, _⟩ := hS.mp
  have hlf : M.frames.length = fs.length + 1 := by rw [hS.frames]; simp
  have hi : to.toNat < u.methods.length := by omega
  obtain ⟨p', c', q', d', he, _, hms, _⟩ := hu.form
  simp only [List.cons.injEq, Value.slice.injEq, true_and, and_true] at he
  obtain ⟨⟨rfl, rfl⟩, rfl, rfl⟩ := he
  have e := hms.get hi
  obtain ⟨bb, oo, ms, hq2, e1, e2⟩ := e
  have hme : mth u to = u.methods[to.toNat] := mth_eq hi (by omega)
  obtain ⟨p1, c1, p2, c2, p3, c3, p4, c4, e3, _⟩ := e2.form
  subst e3
  have r4 : rd h bb (oo + to.toNat * 8 + 4) = some (.int .i64 (mth u to).locals) := by rw [hme]; exact rd_le hS.ma.le (rdn_get e1 (i := 4) rfl)
  refine outs Tryz.sigOk Tryz.func252 Tryz.F252 Tryz.ok252 rfl ?_
  conv => whnf
  repeat' ((first | refine ld r2 ?_ | refine ld r3 ?_ | refine ob (by omega) ?_ | refine ar_in (by omega) (by omega) ?_ | refine ptr ?_) <;> conv => whnf)
  refine selP (fun g => ?_) (fun g => ?_)
  all_goals conv => whnf
  · exact ⟨6, by rw [callS, if_pos (by omega)], rfl, hS.ma.pn⟩
  repeat' ((first | refine ld r10 ?_ | refine ptr' hq2 ?_ | refine ld r4 ?_ | refine ob (by omega) ?_ | refine ar_in (by omega) (by omega) ?_ | refine ptr ?_) <;> conv => whnf)
  refine ob ⟨rfl, by omega, by show (_ : Int) * ((16 : Nat) : Int) ≤ _; omega, by omega⟩ ?_
  conv => whnf
  obtain ⟨n, hn⟩ : ∃ n, n = (mth u to).locals.toNat := ⟨_, rfl⟩
  rw [← hn]
  have htn : took.length ≤ n := by omega
  refine new' ((List.replicate n noVl).map vl2).flatten (by rw [flat_zeros]) (fun b h1 hb hh l1 hg => ?_)
  conv => whnf
  have hin : (pt = none ∧ (took.map vl2).flatten = []) ∨ ∃ b2 o2, pt = some ⟨b2, o2, none⟩ ∧ rdn h1 b2 o2 (Nat.min (took.map vl2).length n * 2) = some (took.map vl2).flatten := by
    have hmin : Nat.min (took.map vl2).length n = took.length := by rw [List.length_map]; exact Nat.min_eq_left htn
    have hfl := flat_length (sz := 2) (xs := took.map vl2) (by simp [vl2])
    rw [hmin]
    obtain ⟨_, ⟨he, hx, _⟩ | ⟨b2, c2, rest, t, he, _, hb2, _, _⟩⟩ := ot
    · simp only [Value.slice.injEq] at he
      exact .inl ⟨he.1, by rw [hx]; rfl⟩
    · simp only [Value.slice.injEq] at he
      refine .inr ⟨b2, 0, he.1, ?_⟩
      rw [List.length_map] at hfl
      rw [rdn_cells (l1 _ _ hb2) _ _ (by simp only [List.length_append]; omega), List.drop_zero, ← hfl, List.take_left]
  have hcells : wrls ((List.replicate n noVl).map vl2).flatten 0 (took.map vl2).flatten = ((took ++ List.replicate (n - took.length) noVl).map vl2).flatten := by
    have hfl := flat_length (sz := 2) (xs := took.map vl2) (by simp [vl2])
    have hfz := flat_length (sz := 2) (xs := (List.replicate n noVl).map vl2) (by simp [vl2])
    rw [List.length_map] at hfl hfz
    have := wrls_app (took.map vl2).flatten [] ((List.replicate n noVl).map vl2).flatten (by rw [hfl, hfz]; simp; omega)
    simp only [List.nil_append, List.length_nil] at this
    rw [this, List.map_append, List.flatten_append]
    congr 1
    have hsp : List.replicate n noVl = List.replicate took.length noVl ++ List.replicate (n - took.length) noVl := by rw [List.replicate_append_replicate]; congr 1; omega
    conv => lhs; rw [hsp, List.map_append, List.flatten_append]
    have hfy := flat_length (sz := 2) (xs := (List.replicate took.length noVl).map vl2) (by simp [vl2])
    rw [List.length_map, List.length_replicate] at hfy
    rw [hfl, ← hfy, List.drop_left]
  refine raw_cp (vs := (took.map vl2).flatten) Tryz.sigOk rfl rfl rfl rfl rfl hin hg ?_ (cellsOk_vl took) ?_
  · have hfl := flat_length (sz := 2) (xs := took.map vl2) (by simp [vl2])
    have hfz := flat_length (sz := 2) (xs := (List.replicate n noVl).map vl2) (by simp [vl2])
    rw [List.length_map] at hfl hfz
    rw [hfl, hfz]; simp; omega
  rw [hcells]
  obtain ⟨h2, hh2⟩ : ∃ h2, h2 = h1.set b (.cells ((took ++ List.replicate (n - took.length) noVl).map vl2).flatten.toArray 31 (0, 0)) := ⟨_, rfl⟩
  rw [← hh2]
  have hh2' : h2 = h.set b (.cells ((took ++ List.replicate (n - took.length) noVl).map vl2).flatten.toArray 31 (0, 0)) := by rw [hh2, hh, set_set]
  have l2 : h.le h2 := by rw [hh2']; exact Heap.le_set_free (Heap.le_refl h) hb
  have oloc : OwnV h2 (.slice (some ⟨b, 0, none⟩) n n) (took ++ List.replicate (n - took.length) noVl) [b] :=
    own_row (t := 31) (fun x hx => by obtain ⟨a, _, rfl⟩ := List.mem_map.1 hx; rfl) (by simp; omega) (by rw [hh2']; exact set_get _ _ _)
  conv => whnf
  have hM2 := hS.ma.mono l2
  obtain ⟨t, po, co, vo, vs, hbm, grow⟩ := hM2.growF (by omega)
  have r2' := rd_le l2 r2
  have r3' : rd h2 bm 1 = some (.slice po M.frames.length co) := rd_mid hbm (i := 1) (by simp) rfl
  have hbf : ∀ b' ∈ [b], b' ∉ bm :: B ∧ h0 b' = none := by
    intro b' hb'
    rw [List.mem_singleton] at hb'
    subst hb'
    refine ⟨fun hx => ?_, ?_⟩
    · obtain ⟨o, ho⟩ := hS.ma.in b' hx; rw [hb] at ho; cases ho
    · cases hh : h0 b' with
      | none => rfl
      | some o => rw [hS.ma.le b' o hh] at hb; cases hb
  have hbs : bs ≠ b := by
    rintro rfl
    unfold rd at r1; rw [hb] at r1; cases r1
  have hbs2 : h2 bs ≠ none := by
    intro hx
    unfold rd at r2'; rw [hx] at r2'; cases r2'
  repeat' ((first | exact trivial | refine ld r2' ?_ | refine ld r3' ?_ | refine And.intro ?_ ?_) <;> conv => whnf)
  all_goals
    refine grow (callF u to took) [b] _ _ ⟨_, _, [b], [], rfl, ?_, ⟨by simp [callF], .inl ⟨rfl, by simp [callF], rfl⟩⟩, rfl⟩ oloc.nd hbf rfl rfl rfl rfl (by simp) ?_
    · unfold callF; rw [← hn]; exact oloc
    rintro p' c' h3 e1 e2 e3 ⟨B', hM3, ev3⟩
    have r2'' : rd h3 bs 11 = some (.pointer (some ⟨bm, 0, none⟩)) := by
      unfold rd at r2' ⊢
      rw [e2 bs (fun hx => hS.out (by simp [hx])) (by simpa using hbs) hbs2]; exact r2'
    have hb3 := e1.trans hbm
    conv => whnf
    (try refine ld r2'' ?_)
    conv => whnf
    refine st1 hb3 (i := 1) rfl (by simp [mcells]) ?_
    conv => whnf
    exact ⟨_, by rw [callS, if_neg (by omega)], B', hM3, (Ev.of_le l2 ((bm :: B) ++ [b]) (fun x hx => (List.mem_append.1 hx).imp id (fun hx => by rw [List.mem_singleton.1 hx]; exact hb))).trans ev3⟩
end Go.Proofs
namespace Go.Proofs
open Go.Vc
set_option maxRecDepth 100000
set_option maxHeartbeats 4000000
theorem st1h {h : Heap} {b off : Nat} {pre x post : List Value} {v : Value} {t : TypeId} {K : Heap → Prop} (hb : h b = some (.cells (pre ++ x ++ post).toArray t (0, 0))) {i : Nat} (x' : List Value) (hn : off = pre.length + i) (hi : i < x.length) (hx : x.set i v = x')
    (hk : ∀ h', h' = h.set b (.cells (pre ++ x' ++ post).toArray t (0, 0)) → h' b = some (.cells (pre ++ x' ++ post).toArray t (0, 0)) → K h') : St h b off [v] K := by
  subst hx
  exact st1 hb hn hi (hk _ rfl (set_get _ _ _))
theorem sth {h : Heap} {b off : Nat} {cs : List Value} {vs : List Value} {t : TypeId} {K : Heap → Prop} (hb : h b = some (.cells cs.toArray t (0, 0))) (cs' : List Value) (hl : off + vs.length ≤ cs.length) (hx : wrls cs off vs = cs')
    (hk : ∀ h', h' = h.set b (.cells cs'.toArray t (0, 0)) → h' b = some (.cells cs'.toArray t (0, 0)) → K h') : St h b off vs K := by
  subst hx
  exact st hb hl (hk _ rfl (set_get _ _ _))
def backS (v : Vl) (fs : List Frm) (M : Mch) : Except Int Mch := match fs.getLast? with
  | none => .ok { M with frames := [], fin := 1, out := v }
  | some g => if g.stack.length < 4 then .ok { M with frames := fs.dropLast ++ [{ g with stack := g.stack ++ [v], pc := g.pc + 1 }] } else .error 0
theorem backS_nil (v : Vl) (M : Mch) : backS v [] M = .ok { M with frames := [], fin := 1, out := v } := rfl
theorem backS_app (v : Vl) (gs : List Frm) (g : Frm) (M : Mch) : backS v (gs ++ [g]) M = if g.stack.length < 4 then .ok { M with frames := gs ++ [{ g with stack := g.stack ++ [v], pc := g.pc + 1 }] } else .error 0 := by simp [backS]
theorem back_c (h0 h : Heap) (bs bm bf off : Nat) (u : Unt) (m : Mth) (fs : List Frm) (f : Frm) (M : Mch) (B : List Nat) (x : Vl) (hS : SpH h0 h bs bm bf off u m fs f M B) (hl : M.frames.length ≤ 1000)
    (hfs : ∀ g ∈ fs, (0 ≤ g.meth ∧ g.meth < u.methods.length) ∧ 0 ≤ g.pc ∧ g.pc ≤ 1000) :
    CallsH Tryz.prog 255 [.pointer (some ⟨bs, 0, none⟩), .agg #[.bool x.ref, .int .i64 x.n]] h (EndH h0 h bm B (backS x fs M)) := by
  obtain ⟨r1, r2, ⟨c0, r3⟩, p, cc, q, d, hu, r9, r10, r9n, _⟩ := hS.mp
  have hlf : M.frames.length = fs.length + 1 := by rw [hS.frames]; simp
  obtain ⟨t, pf, c, vo, vs, hbm, hcap, B1, hM1, ev1⟩ := hS.ma.popF hS.frames
  have r3' : rd h bm 1 = some (.slice pf (fs.length + 1) c) := rd_mid hbm (i := 1) (by simp) rfl
  have hbs : bs ≠ bm := fun hx => hS.out (by simp [hx])
  refine outs Tryz.sigOk Tryz.func255 Tryz.F255 Tryz.ok255 rfl ?_
  conv => whnf
  repeat' ((first | refine ld r2 ?_ | refine ld r3' ?_ | refine ob (by omega) ?_ | refine ar_in (by omega) (by omega) ?_ | refine ptr ?_) <;> conv => whnf)
  have hnat : (((fs.length + 1 : Nat) : Int) - 1).toNat = fs.length := by omega
  refine st1h hbm (i := 1) (mcells vo (.slice pf fs.length c) vs M) rfl (by simp [mcells]) (by rw [hnat]; rfl) (fun h1 hh1 hg1 => ?_)
  rw [← hh1] at hM1 ev1
  have r2' : rd h1 bs 11 = some (.pointer (some ⟨bm, 0, none⟩)) := by rw [hh1, rd_ne hbs]; exact r2
  have r9' : rdn h1 bs 9 2 = some [.slice p u.classes.length cc, .slice q u.methods.length d] := by
    have e9 : rd h1 bs 9 = some (.slice p u.classes.length cc) := by rw [hh1, rd_ne hbs]; exact r9
    have e10 : rd h1 bs 10 = some (.slice q u.methods.length d) := by rw [hh1, rd_ne hbs]; exact r10
    simp only [rdn, e9, e10]
  have r4 : rd h1 bm 1 = some (.slice pf fs.length c) := rd_mid hg1 (i := 1) rfl rfl
  conv => whnf
  refine ld r2' ?_
  conv => whnf
  refine ld r4 ?_
  conv => whnf
  refine selP (fun g => ?_) (fun g => ?_)
  all_goals conv => whnf
  · have hfs0 : fs = [] := List.eq_nil_of_length_eq_zero (by omega)
    subst hfs0
    refine ld r2' ?_
    conv => whnf
    refine st1h hg1 (i := 4) (mcells vo (.slice pf 0 c) vs { M with fin := 1 }) rfl (by simp [mcells]) rfl (fun h2 hh2 hg2 => ?_)
    have r2'' : rd h2 bs 11 = some (.pointer (some ⟨bm, 0, none⟩)) := by rw [hh2, rd_ne hbs]; exact r2'
    conv => whnf
    refine ld r2'' ?_
    conv => whnf
    refine sth hg2 ([] ++ mcells vo (.slice pf 0 c) vs { M with fin := 1, out := x } ++ []) (by simp [mcells]) rfl (fun h3 hh3 hg3 => ?_)
    obtain ⟨t', vo', vf', vs', hb', _, _, _, hint⟩ := hM1.ints
    rw [hg1] at hb'
    simp only [Option.some.injEq, Obj.cells.injEq, Array.mk.injEq, List.nil_append, List.append_nil, mcells, List.cons.injEq, and_true, true_and, List.toArray] at hb'
    obtain ⟨⟨rfl, rfl, rfl⟩, rfl⟩ := hb'
    have hfin := hint { M with frames := [], fin := 1, out := x } rfl rfl rfl
    obtain ⟨hM2, ev2⟩ := hfin
    have hheap : h3 = h1.set bm (.cells ([] ++ mcells vo (.slice pf ([] : List Frm).length c) vs { M with frames := [], fin := 1, out := x } ++ []).toArray t (0, 0)) := by
      rw [hh3, hh2, set_set]; rfl
    rw [← hheap] at hM2 ev2
    conv => whnf
    exact ⟨_, backS_nil x M, _, hM2, ev1.trans ev2⟩
  · obtain ⟨gs, gl, rfl⟩ : ∃ gs gl, fs = gs ++ [gl] := by
      rcases List.eq_nil_or_concat fs with rfl | ⟨gs, gl, rfl⟩
      · simp at g
      · exact ⟨gs, gl, by simp⟩
    have hgl := hfs gl (by simp)
    repeat' ((first | refine ldn r9' ?_ | refine ld r2' ?_ | refine ob (by omega) ?_ | refine ar_in (by omega) (by omega) ?_ | refine ptr ?_) <;> conv => whnf)
    refine callX_r (newStepper_c h0 h1 bm _ u gs gl _ B1 hM1 hu rfl hgl.1 (by simp at hlf ⊢; omega)) ?_
    rintro v h2 ⟨l2, bs2, bf2, off2, rfl, hbs2, hS2⟩
    refine ⟨l2, ?_⟩
    conv => whnf
    refine call_o (push_c h0 h2 bs2 bm bf2 off2 u _ gs gl _ B1 x hS2) ?_ ?_
    · rintro v h3 ⟨k1, B3, hS3, ev3⟩
      conv => whnf
      obtain ⟨t3, q3, rr3, v13, p3, c3, B23, hbf3, hq3, o23, hfr3, s1, s2, reb⟩ := hS3.stk
      have s3 : rd h3 bf2 (off2 + 1) = some (.int .i64 gl.pc) := rd_mid hbf3 (i := 1) (by omega) rfl
      obtain ⟨e1, e2, e3, B4, hS4, ev4⟩ := reb h3 _ B23 (gl.stack ++ [x]) (gl.pc + 1) (fun _ _ _ => rfl) o23 (fun b hb => .inl hb)
      refine ld s1 ?_
      conv => whnf
      refine ld s3 ?_
      conv => whnf
      refine ar_in (by omega) (by omega) ?_
      conv => whnf
      refine st1 hbf3 (i := 1) (by omega) (by simp) ?_
      conv => whnf
      refine ⟨_, by rw [backS_app, if_pos k1], B4, ?_, ev1.trans ((Ev.of_le l2 (bm :: B1) (fun b hb => .inl hb)).trans (ev3.trans ev4))⟩
      exact hS4.ma
    · rintro c h' ⟨k1, k2, k3⟩
      exact ⟨0, by rw [backS_app, if_neg (by omega)], k2, k3⟩
end Go.Proofs
namespace Go.Proofs
open Go.Vc
set_option maxRecDepth 100000
set_option maxHeartbeats 4000000
def findC (u : Unt) (c pc : Int) : List Ctc → Option Ctc
  | [] => none
  | k :: r => if (k.lo ≤ pc ∧ pc < k.hi) ∧ up u.classes c k.cls = true then some k else findC u c pc r
def throwR (u : Unt) (c n : Int) : List Frm → Option (List Frm)
  | [] => none
  | f :: r => match findC u c f.pc (mth u f.meth).catches with
    | some k => some ({ f with pc := k.to, stack := [⟨true, n⟩] } :: r)
    | none => throwR u c n r
def throwS (u : Unt) (n : Int) (M : Mch) : Mch := match throwR u (objN M.objs n).cls n M.frames.reverse with
  | some l => { M with frames := l.reverse }
  | none => { M with frames := [], fin := 2, out := ⟨true, n⟩ }
theorem throwS_nil (u : Unt) (n : Int) (M : Mch) : throwS u n { M with frames := [] } = { M with frames := [], fin := 2, out := ⟨true, n⟩ } := rfl
theorem throwS_app (u : Unt) (n : Int) (M : Mch) (gs : List Frm) (g : Frm) : throwS u n { M with frames := gs ++ [g] } = match findC u (objN M.objs n).cls g.pc (mth u g.meth).catches with
    | some k => { M with frames := gs ++ [{ g with pc := k.to, stack := [⟨true, n⟩] }] }
    | none => throwS u n { M with frames := gs } := by
  simp only [throwS, List.reverse_append, List.reverse_cons, List.reverse_nil, List.nil_append, List.singleton_append, throwR]
  cases findC u (objN M.objs n).cls g.pc (mth u g.meth).catches with
  | some k => simp
  | none => rfl
theorem findC_drop {u : Unt} {c pc : Int} : ∀ (l : List Ctc) (i : Nat), (∀ j (hj : j < l.length), j < i → ¬ ((l[j].lo ≤ pc ∧ pc < l[j].hi) ∧ up u.classes c l[j].cls = true)) → findC u c pc l = findC u c pc (l.drop i)
  | l, 0, _ => by simp
  | [], i + 1, _ => by simp
  | m :: r, i + 1, h => by
    have h0 := h 0 (by simp) (by omega)
    simp only [List.getElem_cons_zero] at h0
    rw [findC, if_neg h0, List.drop_succ_cons]
    exact findC_drop r i (fun j hj hji => by have := h (j + 1) (by simpa using hj) (by omega); simpa using this)
theorem MaH.frm {h0 h : Heap} {bm : Nat} {pre post : List Value} {M : Mch} {B : List Nat} (hM : MaH h0 h bm pre post M B) : (∃ p c, rd h bm (pre.length + 1) = some (.slice p M.frames.length c)) ∧ ∃ p c, rd h bm (pre.length + 0) = some (.slice p M.objs.length c) := by
  obtain ⟨t, vo, vf, vs, hb, ⟨p, c, e1⟩, ⟨p', c', e2⟩, _, _⟩ := hM.ints
  exact ⟨⟨p', c', rd_mid hb (i := 1) rfl (by rw [e2]; rfl)⟩, ⟨p, c, rd_mid hb (i := 0) rfl (by rw [e1]; rfl)⟩⟩
theorem MaH.objAt {h0 h : Heap} {bm : Nat} {pre post : List Value} {M : Mch} {B : List Nat} (hM : MaH h0 h bm pre post M B) {n : Int} (h1 : 0 < n) (h2 : n ≤ M.objs.length) :
    ∃ bo c, rd h bm (pre.length + 0) = some (.slice (some ⟨bo, 0, none⟩) M.objs.length c) ∧ rd h bo (0 + (n - 1).toNat * 2) = some (.int .i64 (objN M.objs n).cls) := by
  have hi : (n - 1).toNat < M.objs.length := by omega
  obtain ⟨bo, c, tm, vf, vs, q, r, t, v, Bi, hb, hbo, hq, _⟩ := hM.obj (split_at M.objs hi)
  have hti : (M.objs.take (n - 1).toNat).length = (n - 1).toNat := by simp; omega
  have hob : objN M.objs n = M.objs[(n - 1).toNat] := objN_eq hi (by omega)
  exact ⟨bo, c, rd_mid hb (i := 0) rfl rfl, by rw [hob]; exact rd_mid hbo (i := 0) (by omega) rfl⟩
theorem throwThing_c (h0 h : Heap) (bm : Nat) (us : List Value) (u : Unt) (M : Mch) (B : List Nat) (n : Int) (hM : MaH h0 h bm [] [] M B) (hu : UntR h0 us u) (ok : CsOk u.classes) (hn : 0 < n ∧ n ≤ M.objs.length) (hlo : M.objs.length ≤ 1000) (hl : M.frames.length ≤ 1000)
    (hc : (objN M.objs n).cls < u.classes.length) (hfs : ∀ g ∈ M.frames, 0 ≤ g.meth ∧ g.meth < u.methods.length) :
    Rets Tryz.prog 110 [.agg ⟨us⟩, .pointer (some ⟨bm, 0, none⟩), .int .i64 n] h fun _ h' => ∃ B', MaH h0 h' bm [] [] (throwS u n M) B' ∧ Ev h h' (bm :: B) (bm :: B') := by
  have hu0 := hu
  obtain ⟨p, cc, q, d, rfl, hcs, hms, hl1, hl2⟩ := hu.form
  obtain ⟨bo, co, r1, r2⟩ := hM.objAt hn.1 hn.2
  refine rets Tryz.sigOk Tryz.func110 Tryz.F110 Tryz.ok110 rfl ?_
  conv => whnf
  repeat' ((first | refine ld r1 ?_ | refine ld r2 ?_ | refine ob (by omega) ?_ | refine ar_in (by omega) (by omega) ?_ | refine ptr ?_) <;> conv => whnf)
  refine lps [1, 2, 3, 6] [3] (fun s : List Frm × Heap × List Nat => MaH h0 s.2.1 bm [] [] { M with frames := s.1 } s.2.2 ∧ Ev h s.2.1 (bm :: B) (bm :: s.2.2) ∧ throwS u n { M with frames := s.1 } = throwS u n M ∧ s.1.length ≤ 1000 ∧ ∀ g ∈ s.1, 0 ≤ g.meth ∧ g.meth < u.methods.length) (fun s => s.1.length)
    (fun s => ([.v (.pointer (some ⟨bm, 0, none⟩)), .v (.int .i64 n), .l 3 0, .v (.int .i64 (objN M.objs n).cls)], [some [.slice p u.classes.length cc, .slice q u.methods.length d]], s.2.1))
    (M.frames, h, B) ⟨hM, Ev.refl _ _, rfl, hl, hfs⟩ rfl ?_
  rintro ⟨fs, h1, B1⟩ ⟨hM1, ev1, hth, hl3, hfs1⟩
  simp only at hM1 ev1 hth hl3 hfs1 ⊢
  conv => whnf
  obtain ⟨⟨pf, cf, r3⟩, _⟩ := hM1.frm
  simp only [List.length_nil, Nat.zero_add] at r3
  refine ld r3 ?_
  conv => whnf
  refine selP (fun g0 => ?_) (fun g0 => ?_)
  all_goals conv => whnf
  · obtain ⟨gs, g, rfl⟩ : ∃ gs gl, fs = gs ++ [gl] := by
      rcases List.eq_nil_or_concat fs with rfl | ⟨gs, gl, rfl⟩
      · simp at g0
      · exact ⟨gs, gl, by simp⟩
    have hg := hfs1 g (by simp)
    have hlen : (gs ++ [g]).length = gs.length + 1 := by simp
    obtain ⟨tm, vo, vs, bf, c, t, qq, r, v1, v2, Bl, Bs, hbm, hbf, hq, o1, o2, nd, hfr, hne, ne, reb⟩ := hM1.lens (fs := gs) (f := g) rfl
    have r3' : rd h1 bm 1 = some (.slice (some ⟨bf, 0, none⟩) (gs.length + 1) c) := rd_mid hbm (i := 1) rfl rfl
    rw [r3] at r3'
    simp only [Option.some.injEq, Value.slice.injEq] at r3'
    obtain ⟨rfl, _, rfl⟩ := r3'
    rw [throwS_app] at hth
    have hidx : 0 + (((gs ++ [g]).length : Int) - 1).toNat * 4 = gs.length * 4 := by omega
    have s0 : rd h1 bf (0 + (((gs ++ [g]).length : Int) - 1).toNat * 4) = some (.int .i64 g.meth) := by rw [hidx]; exact rd_mid hbf (i := 0) (by omega) rfl
    have s1 : rd h1 bf (0 + (((gs ++ [g]).length : Int) - 1).toNat * 4 + 1) = some (.int .i64 g.pc) := by rw [hidx]; exact rd_mid hbf (i := 1) (by omega) rfl
    have hi : g.meth.toNat < u.methods.length := by omega
    have e := hms.get hi
    obtain ⟨bb, oo, mcs, hq2, e1, e2⟩ := e
    have hme : mth u g.meth = u.methods[g.meth.toNat] := mth_eq hi (by omega)
    obtain ⟨p1, c1, p2, c2, p3, c3, p4, c4, e3, k1, k2, k3, k4, k5, k6, k7, k8, d1, d2, d3, d4⟩ := e2.form
    subst e3
    have s2 : rd h1 bb (oo + g.meth.toNat * 8 + 7) = some (.slice p4 (mth u g.meth).catches.length c4) := by rw [hme]; exact rd_le hM1.le (rdn_get e1 (i := 7) rfl)
    have k8' : Row 4 CtcR h1 (.slice p4 (mth u g.meth).catches.length c4) (mth u g.meth).catches := by rw [hme]; exact k8.le hM1.le (fun _ _ hx => hx)
    have d4' : (mth u g.meth).catches.length ≤ 140737488351232 := by rw [hme]; exact d4
    have hcs1 : ClsS h1 (.slice p u.classes.length cc) u.classes := hcs.le hM1.le (fun _ _ hx => hx.le hM1.le)
    repeat' ((first | refine ld r3 ?_ | refine ld s0 ?_ | refine ptr' hq2 ?_ | refine ld s2 ?_ | refine ob (by omega) ?_ | refine ar_in (by omega) (by omega) ?_ | refine ptr ?_) <;> conv => whnf)
    refine lps [1, 2, 3, 6, 7, 44, 45, 46] [3] (fun i : Nat => i ≤ (mth u g.meth).catches.length ∧ ∀ j (hj : j < (mth u g.meth).catches.length), j < i → ¬ (((mth u g.meth).catches[j].lo ≤ g.pc ∧ g.pc < (mth u g.meth).catches[j].hi) ∧ up u.classes (objN M.objs n).cls (mth u g.meth).catches[j].cls = true)) (fun i => (mth u g.meth).catches.length - i)
      (fun i => ([.v (.pointer (some ⟨bm, 0, none⟩)), .v (.int .i64 n), .l 3 0, .v (.int .i64 (objN M.objs n).cls), .v (.pointer (some ⟨bf, 0 + (((gs ++ [g]).length : Int) - 1).toNat * 4, none⟩)), .v (.slice p4 (mth u g.meth).catches.length c4), .v (.int .i64 (mth u g.meth).catches.length), .v (.int .i64 i)], [some [.slice p u.classes.length cc, .slice q u.methods.length d]], h1)) 0 ⟨by omega, fun _ _ hx => by omega⟩ rfl ?_
    rintro i ⟨hi4, hg4⟩
    conv => whnf
    refine selP (fun g5 => ?_) (fun g5 => ?_)
    all_goals conv => whnf
    · have hil : i < (mth u g.meth).catches.length := by omega
      have f := k8'.get hil
      obtain ⟨bc, oc, cvs, hqc, f1, f2, f3⟩ := f
      subst f2
      have go : ¬ (((mth u g.meth).catches[i].lo ≤ g.pc ∧ g.pc < (mth u g.meth).catches[i].hi) ∧ up u.classes (objN M.objs n).cls (mth u g.meth).catches[i].cls = true) → ∀ j (hj : j < (mth u g.meth).catches.length), j < i + 1 → ¬ (((mth u g.meth).catches[j].lo ≤ g.pc ∧ g.pc < (mth u g.meth).catches[j].hi) ∧ up u.classes (objN M.objs n).cls (mth u g.meth).catches[j].cls = true) := by
        intro hx j hj hji
        rcases Nat.lt_succ_iff_lt_or_eq.1 hji with h10 | rfl
        · exact hg4 j hj h10
        · exact hx
      refine ob (by omega) ?_
      conv => whnf
      refine ptr' hqc ?_
      conv => whnf
      refine ldn f1 ?_
      conv => whnf
      repeat' ((first | refine ld s1 ?_ | refine callX_p (covers_c _ _ _) ?_ | refine ob (by omega) ?_ | refine ar_in (by omega) (by omega) ?_ | refine ptr ?_) <;> conv => whnf)
      refine selP (fun g6 => ?_) (fun g6 => ?_)
      all_goals conv => whnf
      · refine callX_p (classUp_any _ _ _ _ _ _ _ hcs1 ok hc) ?_
        conv => whnf
        refine selB (fun g7 => ?_) (fun g7 => ?_)
        all_goals conv => whnf
        · have hfc : findC u (objN M.objs n).cls g.pc (mth u g.meth).catches = some (mth u g.meth).catches[i] := by
            rw [findC_drop _ i hg4, List.drop_eq_getElem_cons hil, findC, if_pos ⟨g6, g7⟩]
          rw [hfc] at hth
          simp only at hth
          refine st1h hbf (i := 1) [.int .i64 g.meth, .int .i64 (mth u g.meth).catches[i].to, v1, v2] (by omega) (by simp) rfl (fun h2 hh2 hg2 => ?_)
          conv => whnf
          refine call_p (leadingTo_c _ _) ?_
          conv => whnf
          refine new' [.bool true, .int .i64 n] rfl (fun b h3 hb hh3 l3 hg3 => ?_)
          conv => whnf
          have hb1 : h1 b = none := by
            rw [hh2] at hb
            by_cases hbb : b = bf
            · subst hbb; simp [Heap.set] at hb
            · simpa [Heap.set, hbb] using hb
          have hbbf : b ≠ bf := by rintro rfl; rw [hg2] at hb; cases hb
          refine st1h (l3 _ _ hg2) (i := 3) [.int .i64 g.meth, .int .i64 (mth u g.meth).catches[i].to, v1, .slice (some ⟨b, 0, none⟩) 1 1] (by omega) (by simp) rfl (fun h4 hh4 hg4' => ?_)
          have hsame : ∀ x, x ≠ bf → x ≠ b → h4 x = h1 x := by
            intro x n1 n2
            rw [hh4, hh3, hh2]
            simp [Heap.set, n1, n2]
          have h4b : h4 b = some (.cells [Value.bool true, .int .i64 n].toArray 31 (0, 0)) := by
            rw [hh4]; simp only [Heap.set, hbbf, if_false]; exact hg3
          have hB1 : ∀ x ∈ Bl, x ≠ bf ∧ x ≠ b := fun x hx => ⟨(hne x (by simp [hx])).1, by rintro rfl; obtain ⟨o, ho⟩ := o1.in x hx; rw [hb1] at ho; cases ho⟩
          obtain ⟨B2, hM2, ev2⟩ := reb h4 { g with pc := (mth u g.meth).catches[i].to, stack := [⟨true, n⟩] } v1 (.slice (some ⟨b, 0, none⟩) 1 1) Bl [b] hg4'
            (fun x hx hn => by
              have n1 : x ≠ bf := fun hy => hx (by simp [hy])
              have n2 : x ≠ b := by rintro rfl; exact hn hb1
              exact hsame x n1 n2)
            (o1.keep fun x hx o ho => by rw [hsame x (hB1 x hx).1 (hB1 x hx).2]; exact ho)
            (own_row (t := 31) (by simp [vl2]) rfl (by rw [h4b]; rfl))
            (fun x hx => by
              rcases List.mem_append.1 hx with hx | hx
              · exact .inl (by simp [hx])
              · rw [List.mem_singleton.1 hx]; exact .inr hb1)
            (by
              have n1 : Nd Bl := nd.less fun a => by simp only [List.count_append]; omega
              intro a
              have := n1 a
              simp only [List.count_append, List.count_cons, List.count_nil]
              by_cases ha : b = a
              · subst ha
                have : Bl.count b = 0 := List.count_eq_zero.2 fun hx => (hB1 b hx).2 rfl
                simp [this]
              · simp [ha]; exact this)
          conv => whnf
          refine ⟨B2, ?_, ev1.trans ev2⟩
          rw [← hth]
          exact hM2
        · refine ar_in (by omega) (by omega) ?_
          conv => whnf
          refine lpn (i + 1) ⟨by omega, go (fun hx => by rw [hx.2] at g7; cases g7)⟩ (by omega) rfl
      · refine ar_in (by omega) (by omega) ?_
        conv => whnf
        refine lpn (i + 1) ⟨by omega, go (fun hx => g6 hx.1)⟩ (by omega) rfl
    · have hfc : findC u (objN M.objs n).cls g.pc (mth u g.meth).catches = none := by
        rw [findC_drop _ (mth u g.meth).catches.length (fun j hj _ => hg4 j hj (by omega)), List.drop_length]; rfl
      rw [hfc] at hth
      simp only at hth
      obtain ⟨t', pf', c', vo', vs', hbm', hcap, B2, hM2, ev2⟩ := hM1.popF (fs := gs) (f := g) rfl
      have r3' : rd h1 bm 1 = some (.slice pf' (gs.length + 1) c') := rd_mid hbm' (i := 1) rfl rfl
      rw [r3] at r3'
      simp only [Option.some.injEq, Value.slice.injEq] at r3'
      obtain ⟨rfl, _, rfl⟩ := r3'
      repeat' ((first | refine ld r3 ?_ | refine ob (by omega) ?_ | refine ar_in (by omega) (by omega) ?_ | refine ptr ?_) <;> conv => whnf)
      have hnat : (((gs ++ [g]).length : Int) - 1).toNat = gs.length := by omega
      refine st1h hbm' (i := 1) (mcells vo' (.slice (some ⟨bf, 0, none⟩) gs.length cf) vs' { M with frames := gs ++ [g] }) rfl (by simp [mcells]) (by rw [hnat]; rfl) (fun h2 hh2 hg2 => ?_)
      rw [← hh2] at hM2 ev2
      conv => whnf
      refine lpn (gs, h2, B2) ⟨hM2, ev1.trans ev2, hth, by simp at hl3 ⊢; omega, fun x hx => hfs1 x (by simp [hx])⟩ (by simp) rfl
  · have hfs0 : fs = [] := List.eq_nil_of_length_eq_zero (by omega)
    subst hfs0
    obtain ⟨t', vo', vf', vs', hb', _, _, _, hint⟩ := hM1.ints
    refine st1h hb' (i := 4) (mcells vo' vf' vs' { M with frames := [], fin := 2 }) rfl (by simp [mcells]) rfl (fun h2 hh2 hg2 => ?_)
    conv => whnf
    refine call_p (leadingTo_c _ _) ?_
    conv => whnf
    refine sth hg2 ([] ++ mcells vo' vf' vs' { M with frames := [], fin := 2, out := ⟨true, n⟩ } ++ []) (by simp [mcells]) rfl (fun h3 hh3 hg3 => ?_)
    obtain ⟨hM2, ev2⟩ := hint { M with frames := [], fin := 2, out := ⟨true, n⟩ } rfl rfl rfl
    have hheap : h3 = h1.set bm (.cells ([] ++ mcells vo' vf' vs' { M with frames := [], fin := 2, out := ⟨true, n⟩ } ++ []).toArray t' (0, 0)) := by
      rw [hh3, hh2, set_set]
    rw [← hheap] at hM2 ev2
    conv => whnf
    refine ⟨B1, ?_, ev1.trans ev2⟩
    rw [← hth]
    exact hM2
end Go.Proofs
namespace Go.Proofs
open Go.Vc
set_option maxRecDepth 100000
set_option maxHeartbeats 4000000
def callsS (u : Unt) (x : Ins) (took : List Vl) (fs : List Frm) (M : Mch) : Except Int Mch :=
  let a := took.getD 0 noVl
  if x.kind = 20 then callS u x.a took M
  else if x.kind = 21 then (match thingS M.objs a.n (up u.classes (objN M.objs a.n).cls x.a) with
    | .error e => .error e
    | .ok o => callS u (find u o.cls x.b) took M)
  else if x.kind = 22 then backS a fs M
  else if x.kind = 23 then (match thingS M.objs a.n (up u.classes (objN M.objs a.n).cls 1) with
    | .error e => .error e
    | .ok _ => .ok (throwS u a.n M))
  else .ok M
theorem EndH.trans {h0 h h1 : Heap} {bm : Nat} {B B1 : List Nat} {r : Except Int Mch} {o : Out} {h' : Heap} (ev : Ev h h1 (bm :: B) (bm :: B1)) (he : EndH h0 h1 bm B1 r o h') : EndH h0 h bm B r o h' := by
  cases o with
  | ret v => obtain ⟨M', e, B', k1, k2⟩ := he; exact ⟨M', e, B', k1, ev.trans k2⟩
  | pan c => exact he
theorem doCalls_c (h0 h : Heap) (bs bm bf off : Nat) (u : Unt) (m : Mth) (fs : List Frm) (f : Frm) (M : Mch) (B : List Nat) (x : Ins) (took : List Vl) (vt : Value) (Bt : List Nat) (hS : SpH h0 h bs bm bf off u m fs f M B)
    (ot : OwnV h vt took Bt) (hbt : ∀ b ∈ Bt, b ∉ bm :: B ∧ b ≠ bs) (ok : CsOk u.classes) (hk : 20 ≤ x.kind ∧ x.kind ≤ 23) (hl : M.objs.length ≤ 900) (hlf : M.frames.length ≤ 900) (hob : ObsOk u M.objs) (tr : ∀ v ∈ took, v.ref = true → 0 ≤ v.n ∧ v.n ≤ M.objs.length)
    (h20 : x.kind = 20 → (0 ≤ x.a ∧ x.a < u.methods.length) ∧ ((took.length : Int) ≤ (mth u x.a).locals ∧ (mth u x.a).locals ≤ 3))
    (h21 : x.kind = 21 → ∃ a r, took = a :: r ∧ a.ref = true) (h21' : x.kind = 21 → ∀ c : Int, c < u.classes.length → up u.classes c x.a = true → 0 ≤ find u c x.b ∧ ((took.length : Int) ≤ (mth u (find u c x.b)).locals ∧ (mth u (find u c x.b)).locals ≤ 3))
    (h22 : x.kind = 22 → ∃ a, took = [a]) (h23 : x.kind = 23 → ∃ a, took = [a] ∧ a.ref = true) (hfs : ∀ g ∈ M.frames, (0 ≤ g.meth ∧ g.meth < u.methods.length) ∧ 0 ≤ g.pc ∧ g.pc ≤ 1000) :
    CallsH Tryz.prog 232 [.pointer (some ⟨bs, 0, none⟩), .agg #[.int .i64 x.kind, .int .i64 x.a, .int .i64 x.b], vt] h (EndH h0 h bm B (callsS u x took fs M)) := by
  obtain ⟨kind, a, b⟩ := x
  simp only at hk h20 h21 h21' h22 h23 ⊢
  obtain ⟨pt, ct, rfl, _⟩ := ot.form
  obtain ⟨r1, r2, _, p, cc, q, d, hu, r9, r10, r9n, _⟩ := hS.mp
  have hk' : kind = 20 ∨ kind = 21 ∨ kind = 22 ∨ kind = 23 := by omega
  rcases hk' with rfl | rfl | rfl | rfl
  · refine outs Tryz.sigOk Tryz.func232 Tryz.F232 Tryz.ok232 rfl ?_
    conv => whnf
    refine call_o (callFr_c h0 h bs bm bf off u m fs f M B a took _ Bt hS ot hbt (h20 rfl).1 (h20 rfl).2) ?_ ?_
    · rintro v h' hh
      conv => whnf
      exact hh
    · rintro c h' hh
      exact hh
  · obtain ⟨v0, rr, rfl, hr0⟩ := h21 rfl
    have hlen : 0 < (List.map vl2 (v0 :: rr)).length := by simp
    obtain ⟨b0, hq0, _, hall⟩ := ot.all (by simp)
    have n0 := (hall 0 (by simp)).1
    have q0 := (hall 0 (by simp)).2
    simp only [List.getElem_cons_zero] at n0 q0
    have hv0 := tr v0 (by simp) hr0
    have hth : callsS u ⟨21, a, b⟩ (v0 :: rr) fs M = (match thingS M.objs v0.n (up u.classes (objN M.objs v0.n).cls a) with
      | .error e => .error e
      | .ok o => callS u (find u o.cls b) (v0 :: rr) M) := rfl
    rw [hth]
    refine outs Tryz.sigOk Tryz.func232 Tryz.F232 Tryz.ok232 rfl ?_
    conv => whnf
    repeat' ((first | exact trivial | refine And.intro ?_ ?_ | refine ptr' hq0 ?_ | refine ldn n0 ?_ | refine ob (by omega) ?_ | refine ar_in (by omega) (by omega) ?_ | refine ptr ?_) <;> conv => whnf)
    all_goals
      refine callX_o (ofClass_c h0 h bs bm bf off u m fs f M B v0 a hS ok hv0 (by omega) (fun hp => (hob _ (objN_mem hp hv0.2)).1.2)) ?_ ?_
      · rintro v h1 ⟨l1, e1, e2, bo, c, s1, rfl⟩
        refine ⟨l1, ?_⟩
        have hS1 := hS.mono l1
        obtain ⟨bo', c', w1, w2⟩ := hS1.ma.objAt e1 hv0.2
        simp only [List.length_nil, Nat.zero_add] at w1
        rw [s1] at w1
        simp only [Option.some.injEq, Value.slice.injEq, Addr.mk.injEq, and_true, true_and] at w1
        obtain ⟨rfl, rfl⟩ := w1
        have hcl := (hob _ (objN_mem e1 hv0.2)).1.2
        have h0c := up_pos e2
        have hsend := h21' rfl _ hcl e2
        have hu1 := hu.le hS1.ma.le
        rw [thingS_ok e1 e2]
        simp only
        conv => whnf
        repeat' ((first | exact trivial | refine And.intro ?_ ?_ | refine ldn (rdn_le' l1 r9n) ?_ | refine ld (rd_le l1 r2) ?_ | refine ld s1 ?_ | refine ptr' hq0 ?_ | refine ld (rd_le l1 q0) ?_ | refine ld w2 ?_ | refine callX_p (unitFind_c _ u _ _ h1 hu1 ok (by omega) hcl) ?_ | refine ob (by omega) ?_ | refine ar_in (by omega) (by omega) ?_ | refine ptr ?_) <;> conv => whnf)
        all_goals
          refine call_o (callFr_c h0 h1 bs bm bf off u m fs f M B _ (v0 :: rr) _ Bt hS1 (ot.keep (Keep.of_le l1 _)) hbt ⟨hsend.1, (find_bound u _ b).2⟩ hsend.2) ?_ ?_
          · rintro v h' hh
            conv => whnf
            exact EndH.trans (Ev.of_le l1 (bm :: B) (fun b hb => .inl hb)) hh
          · rintro c h' hh
            exact EndH.trans (Ev.of_le l1 (bm :: B) (fun b hb => .inl hb)) hh
      · rintro c h1 ⟨l1, e1⟩
        have hle1 := hS.ma.pn' l1
        rcases e1 with ⟨e1, e2, e3⟩ | ⟨e1, e3⟩
        · exact ⟨0, by rw [thingS_bad e1 e2], e3, hle1⟩
        · exact ⟨2, by rw [thingS_nil e1], e3, hle1⟩
  · obtain ⟨v0, rfl⟩ := h22 rfl
    have hlen : (List.map vl2 [v0]).length = 1 := rfl
    obtain ⟨b0, hq0, _, hall⟩ := ot.all (by simp)
    have n0 := (hall 0 (by simp)).1
    simp only [List.getElem_cons_zero] at n0
    refine outs Tryz.sigOk Tryz.func232 Tryz.F232 Tryz.ok232 rfl ?_
    conv => whnf
    repeat' ((first | refine ptr' hq0 ?_ | refine ldn n0 ?_ | refine ob (by omega) ?_ | refine ar_in (by omega) (by omega) ?_ | refine ptr ?_) <;> conv => whnf)
    refine call_o (back_c h0 h bs bm bf off u m fs f M B v0 hS (by omega) (fun g hg => hfs g (by rw [hS.frames]; simp [hg]))) ?_ ?_
    · rintro v h' hh
      conv => whnf
      exact hh
    · rintro c h' hh
      exact hh
  · obtain ⟨v0, rfl, hr0⟩ := h23 rfl
    have hlen : (List.map vl2 [v0]).length = 1 := rfl
    obtain ⟨b0, hq0, _, hall⟩ := ot.all (by simp)
    have n0 := (hall 0 (by simp)).1
    have q0 := (hall 0 (by simp)).2
    simp only [List.getElem_cons_zero] at n0 q0
    have hv0 := tr v0 (by simp) hr0
    have hth : callsS u ⟨23, a, b⟩ [v0] fs M = (match thingS M.objs v0.n (up u.classes (objN M.objs v0.n).cls 1) with
      | .error e => .error e
      | .ok _ => .ok (throwS u v0.n M)) := rfl
    rw [hth]
    refine outs Tryz.sigOk Tryz.func232 Tryz.F232 Tryz.ok232 rfl ?_
    conv => whnf
    repeat' ((first | exact trivial | refine And.intro ?_ ?_ | refine ptr' hq0 ?_ | refine ldn n0 ?_ | refine ob (by omega) ?_ | refine ar_in (by omega) (by omega) ?_ | refine ptr ?_) <;> conv => whnf)
    all_goals
      refine call_o (ofClass_c h0 h bs bm bf off u m fs f M B v0 1 hS ok hv0 (by omega) (fun hp => (hob _ (objN_mem hp hv0.2)).1.2)) ?_ ?_
      · rintro v h1 ⟨l1, e1, e2, bo, c, s1, rfl⟩
        have hS1 := hS.mono l1
        have hcl := (hob _ (objN_mem e1 hv0.2)).1.2
        rw [thingS_ok e1 e2]
        simp only
        conv => whnf
        repeat' ((first | exact trivial | refine And.intro ?_ ?_ | refine ldn (rdn_le' l1 r9n) ?_ | refine ld (rd_le l1 r2) ?_ | refine ptr' hq0 ?_ | refine ld (rd_le l1 q0) ?_ | refine ob (by omega) ?_ | refine ar_in (by omega) (by omega) ?_ | refine ptr ?_) <;> conv => whnf)
        all_goals
          refine call_r (throwThing_c h0 h1 bm _ u M B v0.n hS1.ma hu ok ⟨e1, hv0.2⟩ (by omega) (by omega) hcl (fun g hg => (hfs g hg).1)) ?_
          rintro v h2 ⟨B', k1, k2⟩
          conv => whnf
          exact ⟨_, rfl, B', k1, (Ev.of_le l1 (bm :: B) (fun b hb => .inl hb)).trans k2⟩
      · rintro c h1 ⟨l1, e1⟩
        have hle1 := hS.ma.pn' l1
        rcases e1 with ⟨e1, e2, e3⟩ | ⟨e1, e3⟩
        · exact ⟨0, by rw [thingS_bad e1 e2], e3, hle1⟩
        · exact ⟨2, by rw [thingS_nil e1], e3, hle1⟩
end Go.Proofs
namespace Go.Proofs
open Go.Vc
set_option maxRecDepth 100000
set_option maxHeartbeats 4000000
abbrev Mid := Except Int (List Ob × Frm × List Int × Bool)
def pushM (objs : List Ob) (f : Frm) (said : List Int) (v : Vl) : Mid := match pushS objs f v with
  | .ok (o, g) => .ok (o, g, said, false)
  | .error e => .error e
def midS (u : Unt) (x : Ins) (took : List Vl) (objs : List Ob) (f : Frm) (said : List Int) : Mid :=
  let a := took.getD 0 noVl
  let b := took.getD 1 noVl
  if x.kind = 1 then pushM objs f said ⟨false, x.a⟩
  else if x.kind = 2 then pushM objs f said ⟨true, 0⟩
  else if x.kind = 3 then pushM objs f said (f.locals.getD x.a.toNat noVl)
  else if x.kind = 4 then .ok (objs, { f with locals := f.locals.set x.a.toNat a }, said, false)
  else if x.kind = 5 then .ok (objs, f, said, false)
  else if x.kind = 6 then (match pushS objs f a with
    | .ok (_, g) => pushM objs g said a
    | .error e => .error e)
  else if x.kind = 7 then (if (intDo x.a a.n b.n).2 then pushM objs f said ⟨false, (intDo x.a a.n b.n).1⟩ else .error 1)
  else if x.kind = 8 then .ok (objs, f, said, decide (a.n < b.n))
  else if x.kind = 9 then .ok (objs, f, said, decide (a.n = b.n))
  else if x.kind = 10 then .ok (objs, f, said, decide (a.n = 0))
  else if x.kind = 11 then .ok (objs, f, said, true)
  else if x.kind = 24 then .ok (objs, f, said ++ [a.n], false)
  else match thingsS u x took objs f with
    | .ok (o, g) => .ok (o, g, said, false)
    | .error e => .error e
def noIns : Ins := ⟨0, 0, 0⟩
def doS (u : Unt) (fs : List Frm) (f : Frm) (M : Mch) : Except Int Mch :=
  let code := (mth u f.meth).code
  if (code.length : Int) ≤ f.pc then .error 0 else
  let x := code.getD f.pc.toNat noIns
  match takeS u x f.stack with
  | none => .error 0
  | some (took, rest) =>
    let f1 : Frm := { f with stack := rest }
    if 20 ≤ x.kind ∧ x.kind ≤ 23 then callsS u x took fs { M with frames := fs ++ [f1] }
    else match midS u x took M.objs f1 M.said with
      | .error e => .error e
      | .ok (objs, g, said, goes) => .ok { M with objs := objs, said := said, frames := fs ++ [{ g with pc := if goes then x.a else f.pc + 1 }] }
def VlOk (n : Nat) (v : Vl) : Prop := v.ref = true → 0 ≤ v.n ∧ v.n ≤ n
structure FrmOk (u : Unt) (n : Nat) (g : Frm) : Prop where
  meth : 0 ≤ g.meth ∧ g.meth < u.methods.length
  pc : 0 ≤ g.pc ∧ g.pc ≤ (mth u g.meth).code.length
  loc : (g.locals.length : Int) = (mth u g.meth).locals
  stk : g.stack.length ≤ 4
  vl : ∀ v ∈ g.locals, VlOk n v
  vs : ∀ v ∈ g.stack, VlOk n v
structure MInv (u : Unt) (M : Mch) : Prop where
  objs : ObsOk u M.objs
  len : 7 ≤ M.objs.length ∧ M.objs.length ≤ 400
  vals : ∀ o ∈ M.objs, ∀ v ∈ o.vals, VlOk M.objs.length v
  frm : ∀ g ∈ M.frames, FrmOk u M.objs.length g
  nf : M.frames.length ≤ 4
  said : M.said.length ≤ 400
theorem takeS_spec {u : Unt} {x : Ins} {stk took rest : List Vl} (h : takeS u x stk = some (took, rest)) : ∃ ws, seesL u x = some ws ∧ took.length = ws.length ∧ okS ws took = true ∧ stk = rest ++ took := by
  unfold takeS at h
  split at h
  · cases h
  · rename_i ws hws
    split at h
    · cases h
    · split at h
      · rename_i h1 h2
        simp only [Option.some.injEq, Prod.mk.injEq] at h
        obtain ⟨rfl, rfl⟩ := h
        exact ⟨ws, hws, by simp; omega, h2, by simp⟩
      · cases h
theorem two_of {l : List Vl} (h : l.length = 2) : ∃ a b, l = [a, b] := by
  match l, h with
  | [a, b], _ => exact ⟨a, b, rfl⟩
theorem one_of' {l : List Vl} (h : l.length = 1) : ∃ a, l = [a] := by
  match l, h with
  | [a], _ => exact ⟨a, rfl⟩
theorem three_of {l : List Vl} (h : l.length = 3) : ∃ a b c, l = [a, b, c] := by
  match l, h with
  | [a, b, c], _ => exact ⟨a, b, c, rfl⟩
theorem nil_of {l : List Vl} (h : l.length = 0) : l = [] := List.eq_nil_of_length_eq_zero h
theorem mth_mem {u : Unt} {k : Int} (h : 0 ≤ k ∧ k < u.methods.length) : mth u k ∈ u.methods := by
  have hi : k.toNat < u.methods.length := by omega
  rw [mth_eq hi (by omega)]
  exact List.getElem_mem _
theorem UnitT.args {u : Unt} (hu : UnitT u) : ∀ m ∈ u.methods, m.args.length ≤ 2 := fun m hm => (hu.2.2.2.1 m hm).1.2.1
theorem InsT.ok {u : Unt} {m : Mth} {x : Ins} (hu : UnitT u) (hx : InsT u m x) : InsOk u x := by
  refine ⟨hu.1, hu.args, fun hk => ?_, fun hk => ?_⟩
  · obtain ⟨kind, a, b⟩ := x
    simp only at hk
    subst hk
    have := (InsT_iff (p := 7) (q := 0) rfl).1 hx
    simp [OperT] at this
    exact this.1.1
  · obtain ⟨kind, a, b⟩ := x
    simp only at hk
    subst hk
    have := (InsT_iff (p := 5) (q := 9) rfl).1 hx
    simp [OperT] at this
    exact this.1
end Go.Proofs
namespace Go.Proofs
open Go.Vc
set_option maxRecDepth 100000
set_option maxHeartbeats 4000000
theorem SpH.move {h0 h h' : Heap} {bs bm bf off : Nat} {u : Unt} {m : Mth} {fs : List Frm} {f : Frm} {M M' : Mch} {B B' : List Nat} (hS : SpH h0 h bs bm bf off u m fs f M B) (hM : MaH h0 h' bm [] [] M' B') (hf : M'.frames = M.frames) (e1 : h' bs = h bs) (e2 : rd h' bm 1 = rd h bm 1) (hn : bs ∉ bm :: B') :
    SpH h0 h' bs bm bf off u m fs f M' B' := by
  obtain ⟨_, hf0, ⟨htop, c, hr⟩, ⟨ms, us, ts, hst, hu, hm⟩, hout⟩ := hS
  exact ⟨hM, by rw [hf, hf0], ⟨htop, c, by rw [e2]; exact hr⟩, ⟨ms, us, ts, by rw [e1]; exact hst, hu, hm⟩, hn⟩
theorem SpH.locT {h0 h : Heap} {bs bm bf off : Nat} {u : Unt} {m : Mth} {fs : List Frm} {f : Frm} {M : Mch} {B : List Nat} (hS : SpH h0 h bs bm bf off u m fs f M B) : ∃ v B1, rd h bf (off + 2) = some v ∧ OwnV h v f.locals B1 := by
  obtain ⟨t, q, r, v1, v2, B1, B2, hbf, hq, o1, _⟩ := hS.lens
  exact ⟨v1, B1, rd_mid hbf (i := 2) (by omega) rfl, o1⟩
theorem pushS_keep {objs objs' : List Ob} {f g : Frm} {v : Vl} (h : pushS objs f v = .ok (objs', g)) : g.meth = f.meth ∧ g.pc = f.pc := by
  unfold pushS at h
  split at h
  · simp only [Except.ok.injEq, Prod.mk.injEq] at h; obtain ⟨_, rfl⟩ := h; exact ⟨rfl, rfl⟩
  · cases h
theorem thingsS_keep {u : Unt} {x : Ins} {took : List Vl} {objs objs' : List Ob} {f g : Frm} (h : thingsS u x took objs f = .ok (objs', g)) : g.meth = f.meth ∧ g.pc = f.pc := by
  unfold thingsS at h
  simp only [addS] at h
  repeat' split at h
  all_goals first
    | exact pushS_keep h
    | (simp only [Except.ok.injEq, Prod.mk.injEq] at h; obtain ⟨_, rfl⟩ := h; exact ⟨rfl, rfl⟩)
    | cases h
theorem SpH.pcT {h0 h : Heap} {bs bm bf off : Nat} {u : Unt} {m : Mth} {fs : List Frm} {f : Frm} {M : Mch} {B : List Nat} (hS : SpH h0 h bs bm bf off u m fs f M B) :
    ∃ t q r v1 v2, rd h bs 0 = some (.pointer (some ⟨bf, off, none⟩)) ∧ h bf = some (.cells (q ++ [.int .i64 f.meth, .int .i64 f.pc, v1, v2] ++ r).toArray t (0, 0)) ∧ q.length = off ∧ rd h bf (off + 1) = some (.int .i64 f.pc) ∧
      ∀ n, ∃ B', MaH h0 (h.set bf (.cells (q ++ [.int .i64 f.meth, .int .i64 n, v1, v2] ++ r).toArray t (0, 0))) bm [] [] { M with frames := fs ++ [{ f with pc := n }] } B' ∧ Ev h (h.set bf (.cells (q ++ [.int .i64 f.meth, .int .i64 n, v1, v2] ++ r).toArray t (0, 0))) (bm :: B) (bm :: B') := by
  obtain ⟨t, q, r, v1, p2, c2, B2, hbf, hq, o2, _, r1, r2, reb⟩ := hS.stk
  refine ⟨t, q, r, v1, _, r1, hbf, hq, rd_mid hbf (i := 1) (by omega) rfl, fun n => ?_⟩
  obtain ⟨_, _, _, B', hS', ev⟩ := reb h _ B2 f.stack n (fun _ _ _ => rfl) o2 (fun b hb => .inl hb)
  exact ⟨B', hS'.ma, ev⟩
theorem SpH.ldF {h0 h : Heap} {bs bm bf off : Nat} {u : Unt} {m : Mth} {fs : List Frm} {f : Frm} {M : Mch} {B : List Nat} {K : Value → Prop} (hS : SpH h0 h bs bm bf off u m fs f M B) (hk : K (.pointer (some ⟨bf, off, none⟩))) : Ld h bs 0 K := ld hS.mp.1 hk
theorem SpH.stPc {h0 h : Heap} {bs bm bf off : Nat} {u : Unt} {m : Mth} {fs : List Frm} {f : Frm} {M : Mch} {B : List Nat} {K : Heap → Prop} {n : Int} (hS : SpH h0 h bs bm bf off u m fs f M B)
    (hk : ∀ h9 B9, MaH h0 h9 bm [] [] { M with frames := fs ++ [{ f with pc := n }] } B9 → Ev h h9 (bm :: B) (bm :: B9) → K h9) : St h bf (off + 1) [.int .i64 n] K := by
  obtain ⟨tt, qt, rt, vt1, vt2, z1, zb, zq, z2, zreb⟩ := hS.pcT
  refine st1h zb (i := 1) [.int .i64 f.meth, .int .i64 n, vt1, vt2] (by omega) (by simp) rfl (fun h9 hh9 _ => ?_)
  obtain ⟨B9, hM9, ev9⟩ := zreb n
  rw [← hh9] at hM9 ev9
  exact hk h9 B9 hM9 ev9
theorem rdn_cong {h h' : Heap} {b : Nat} (e : h' b = h b) : ∀ (n off : Nat), rdn h' b off n = rdn h b off n
  | 0, _ => rfl
  | n + 1, off => by
    have : rd h' b off = rd h b off := by unfold rd; rw [e]
    simp only [rdn, this, rdn_cong e n]
theorem OwnC.blk {h : Heap} {n c b : Nat} {l : List Vl} {B : List Nat} (ho : OwnV h (.slice (some ⟨b, 0, none⟩) n c) l B) : b ∈ B ∧ h b ≠ none := by
  obtain ⟨_, ⟨he, _, _⟩ | ⟨b', c', rest, t, he, _, hb, _, rfl⟩⟩ := ho
  · cases he
  · simp only [Value.slice.injEq, Option.some.injEq, Addr.mk.injEq, and_true] at he
    rw [he.1]; simp [hb]
theorem pushM_ok {objs : List Ob} {f : Frm} {said : List Int} {v : Vl} (h : f.stack.length < 4) : pushM objs f said v = .ok (objs, { f with stack := f.stack ++ [v] }, said, false) := by simp [pushM, pushS, h]
theorem pushM_bad {objs : List Ob} {f : Frm} {said : List Int} {v : Vl} (h : 4 ≤ f.stack.length) : pushM objs f said v = .error 0 := by
  unfold pushM pushS; rw [if_neg (by omega)]
theorem doS_mid {u : Unt} {fs : List Frm} {f : Frm} {M : Mch} {x : Ins} {took rest : List Vl} (hpc : ¬ ((mth u f.meth).code.length : Int) ≤ f.pc) (hx : (mth u f.meth).code.getD f.pc.toNat noIns = x) (ht : takeS u x f.stack = some (took, rest)) (hk : ¬ (20 ≤ x.kind ∧ x.kind ≤ 23)) :
    doS u fs f M = (match midS u x took M.objs { f with stack := rest } M.said with
      | .error e => .error e
      | .ok (objs, g, said, goes) => .ok { M with objs := objs, said := said, frames := fs ++ [{ g with pc := if goes then x.a else f.pc + 1 }] }) := by
  unfold doS
  simp only [if_neg hpc, hx, ht, if_neg hk] <;> rfl
theorem doS_calls {u : Unt} {fs : List Frm} {f : Frm} {M : Mch} {x : Ins} {took rest : List Vl} (hpc : ¬ ((mth u f.meth).code.length : Int) ≤ f.pc) (hx : (mth u f.meth).code.getD f.pc.toNat noIns = x) (ht : takeS u x f.stack = some (took, rest)) (hk : 20 ≤ x.kind ∧ x.kind ≤ 23) :
    doS u fs f M = callsS u x took fs { M with frames := fs ++ [{ f with stack := rest }] } := by
  unfold doS
  simp only [if_neg hpc, hx, ht, if_pos hk]
theorem intDo_c (op a b : Int) (h : Heap) : Pure Tryz.prog 38 [.int .i64 op, .int .i64 a, .int .i64 b] h (prI (intDo op a b)) := iIntDo_c op a b h
end Go.Proofs
namespace Go.Proofs
open Go.Vc
set_option maxRecDepth 100000
set_option maxHeartbeats 4000000
theorem do_c1 (h0 h : Heap) (bs bm bf off : Nat) (u : Unt) (fs : List Frm) (f : Frm) (M : Mch) (B : List Nat) (a b : Int) (hS : SpH h0 h bs bm bf off u (mth u f.meth) fs f M B) (hu : UnitT u) (hI : MInv u M) (gp : ¬ ((mth u f.meth).code.length : Int) ≤ f.pc) (hxd : (mth u f.meth).code.getD f.pc.toNat noIns = ⟨1, a, b⟩) :
    CallsH Tryz.prog 189 [.pointer (some ⟨bs, 0, none⟩)] h (EndH h0 h bm B (doS u fs f M)) := by
  have hff : f ∈ M.frames := by rw [hS.frames]; simp
  have hF := hI.frm f hff
  have hmu := hu.2.2.2.1 _ (mth_mem hF.meth)
  have ok := hu.1
  obtain ⟨hpc0, hpc1⟩ := hF.pc
  have hlen12 := hmu.2.1.2.1
  obtain ⟨r1, r2, _, p, cc, q, d, hu1, r9, r10, r9n, p2, c2, r6, hcode⟩ := hS.mp
  obtain ⟨t0, q0, rr0, v10, v20, _, hbf0, hq0, s1, _⟩ := hS.pcT
  have hil : f.pc.toNat < (mth u f.meth).code.length := by omega
  have hxi : (mth u f.meth).code[f.pc.toNat] = ⟨1, a, b⟩ := by rw [← hxd]; simp [hil]
  have e := hcode.get hil
  rw [hxi] at e
  obtain ⟨bb, oo, xs, hq2, e1, e2, e3, e4, e5⟩ := e
  subst e2
  have e1' : rdn h bb (oo + f.pc.toNat * 3) 3 = some [.int .i64 1, .int .i64 a, .int .i64 b] := rdn_le' hS.ma.le e1
  have hxT := hmu.2.1.2.2.2.1 _ (List.getElem_mem hil)
  rw [hxi] at hxT
  have hi := (InsT_iff (u := u) (m := mth u f.meth) (a := a) (b := b) (k := 1) rfl).1 hxT
  refine outs Tryz.sigOk Tryz.func189 Tryz.F189 Tryz.ok189 rfl ?_
  conv => whnf
  repeat' ((first | refine ld r1 ?_ | refine ld s1 ?_ | refine ld r6 ?_ | refine ob (by omega) ?_ | refine ar_in (by omega) (by omega) ?_ | refine ptr ?_) <;> conv => whnf)
  refine selPf gp ?_
  conv => whnf
  repeat' ((first | refine ld r1 ?_ | refine ld s1 ?_ | refine ld r6 ?_ | refine ptr' hq2 ?_ | refine ldn e1' ?_ | refine ob (by omega) ?_ | refine ar_in (by omega) (by omega) ?_ | refine ptr ?_) <;> conv => whnf)
  refine call_o (take_c h0 h bs bm bf off u _ fs f M B ⟨1, a, b⟩ hS (InsT.ok hu hxT) (by have := hF.stk; omega)) ?_ ?_
  rotate_left
  · rintro c h' ⟨k1, k2, k3⟩
    refine ⟨0, ?_, k2, k3⟩
    unfold doS
    simp only [if_neg gp, hxd, k1]
  rintro vt h1 ⟨took, rest, htk, B1, Bt, hS1, ev1, ot, hbt⟩
  obtain ⟨ws, hws, htl, hok, hst⟩ := takeS_spec htk
  have hrest : rest.length ≤ 4 := by have := hF.stk; rw [hst] at this; simp at this; omega
  have htv : ∀ v ∈ took, v.ref = true → 0 ≤ v.n ∧ v.n ≤ M.objs.length := fun v hv => hF.vs v (by rw [hst]; simp [hv])
  obtain ⟨pt, ct, rfl, _⟩ := ot.form
  obtain ⟨t1, q1, rr1, v11, v21, w1, hbf1, hq1, w2, _⟩ := hS1.pcT
  have w2 : rd h1 bf (off + 1) = some (.int .i64 f.pc) := w2
  have hbt' : ∀ b ∈ Bt, b ∉ bm :: B1 ∧ b ≠ bs := fun b hb => ⟨(hbt b hb).1, (hbt b hb).2.1⟩
  have hdo := doS_mid (fs := fs) (M := M) gp hxd htk (by simp)
  conv => whnf
  repeat' ((first | refine ld w1 ?_ | refine ld w2 ?_ | refine ob (by omega) ?_ | refine ar_in (by omega) (by omega) ?_ | refine ptr ?_) <;> conv => whnf)
  refine call_o (push_c h0 h1 bs bm bf off u _ fs _ _ B1 ⟨false, a⟩ hS1) ?_ ?_
  · rintro vv h2 ⟨k1, B2, hS2, ev2⟩
    conv => whnf
    first | refine hS2.ldF ?_ | skip
    conv => whnf
    refine hS2.stPc (fun h9 B9 hM9 ev9 => ?_)
    conv => whnf
    exact ⟨_, (by rw [hdo]; rw [show midS u ⟨1, a, b⟩ took M.objs { f with stack := rest } M.said = pushM M.objs { f with stack := rest } M.said ⟨false, a⟩ from rfl]; rw [pushM_ok k1]; rfl), B9, hM9, ev1.trans (ev2.trans ev9)⟩
  · rintro c h2 ⟨k1, k2, k3⟩
    exact ⟨0, by rw [hdo]; rw [show midS u ⟨1, a, b⟩ took M.objs { f with stack := rest } M.said = pushM M.objs { f with stack := rest } M.said ⟨false, a⟩ from rfl]; rw [pushM_bad k1], k2, k3⟩
theorem do_c2 (h0 h : Heap) (bs bm bf off : Nat) (u : Unt) (fs : List Frm) (f : Frm) (M : Mch) (B : List Nat) (a b : Int) (hS : SpH h0 h bs bm bf off u (mth u f.meth) fs f M B) (hu : UnitT u) (hI : MInv u M) (gp : ¬ ((mth u f.meth).code.length : Int) ≤ f.pc) (hxd : (mth u f.meth).code.getD f.pc.toNat noIns = ⟨2, a, b⟩) :
    CallsH Tryz.prog 189 [.pointer (some ⟨bs, 0, none⟩)] h (EndH h0 h bm B (doS u fs f M)) := by
  have hff : f ∈ M.frames := by rw [hS.frames]; simp
  have hF := hI.frm f hff
  have hmu := hu.2.2.2.1 _ (mth_mem hF.meth)
  have ok := hu.1
  obtain ⟨hpc0, hpc1⟩ := hF.pc
  have hlen12 := hmu.2.1.2.1
  obtain ⟨r1, r2, _, p, cc, q, d, hu1, r9, r10, r9n, p2, c2, r6, hcode⟩ := hS.mp
  obtain ⟨t0, q0, rr0, v10, v20, _, hbf0, hq0, s1, _⟩ := hS.pcT
  have hil : f.pc.toNat < (mth u f.meth).code.length := by omega
  have hxi : (mth u f.meth).code[f.pc.toNat] = ⟨2, a, b⟩ := by rw [← hxd]; simp [hil]
  have e := hcode.get hil
  rw [hxi] at e
  obtain ⟨bb, oo, xs, hq2, e1, e2, e3, e4, e5⟩ := e
  subst e2
  have e1' : rdn h bb (oo + f.pc.toNat * 3) 3 = some [.int .i64 2, .int .i64 a, .int .i64 b] := rdn_le' hS.ma.le e1
  have hxT := hmu.2.1.2.2.2.1 _ (List.getElem_mem hil)
  rw [hxi] at hxT
  have hi := (InsT_iff (u := u) (m := mth u f.meth) (a := a) (b := b) (k := 2) rfl).1 hxT
  refine outs Tryz.sigOk Tryz.func189 Tryz.F189 Tryz.ok189 rfl ?_
  conv => whnf
  repeat' ((first | refine ld r1 ?_ | refine ld s1 ?_ | refine ld r6 ?_ | refine ob (by omega) ?_ | refine ar_in (by omega) (by omega) ?_ | refine ptr ?_) <;> conv => whnf)
  refine selPf gp ?_
  conv => whnf
  repeat' ((first | refine ld r1 ?_ | refine ld s1 ?_ | refine ld r6 ?_ | refine ptr' hq2 ?_ | refine ldn e1' ?_ | refine ob (by omega) ?_ | refine ar_in (by omega) (by omega) ?_ | refine ptr ?_) <;> conv => whnf)
  refine call_o (take_c h0 h bs bm bf off u _ fs f M B ⟨2, a, b⟩ hS (InsT.ok hu hxT) (by have := hF.stk; omega)) ?_ ?_
  rotate_left
  · rintro c h' ⟨k1, k2, k3⟩
    refine ⟨0, ?_, k2, k3⟩
    unfold doS
    simp only [if_neg gp, hxd, k1]
  rintro vt h1 ⟨took, rest, htk, B1, Bt, hS1, ev1, ot, hbt⟩
  obtain ⟨ws, hws, htl, hok, hst⟩ := takeS_spec htk
  have hrest : rest.length ≤ 4 := by have := hF.stk; rw [hst] at this; simp at this; omega
  have htv : ∀ v ∈ took, v.ref = true → 0 ≤ v.n ∧ v.n ≤ M.objs.length := fun v hv => hF.vs v (by rw [hst]; simp [hv])
  obtain ⟨pt, ct, rfl, _⟩ := ot.form
  obtain ⟨t1, q1, rr1, v11, v21, w1, hbf1, hq1, w2, _⟩ := hS1.pcT
  have w2 : rd h1 bf (off + 1) = some (.int .i64 f.pc) := w2
  have hbt' : ∀ b ∈ Bt, b ∉ bm :: B1 ∧ b ≠ bs := fun b hb => ⟨(hbt b hb).1, (hbt b hb).2.1⟩
  have hdo := doS_mid (fs := fs) (M := M) gp hxd htk (by simp)
  conv => whnf
  repeat' ((first | refine ld w1 ?_ | refine ld w2 ?_ | refine ob (by omega) ?_ | refine ar_in (by omega) (by omega) ?_ | refine ptr ?_) <;> conv => whnf)
  refine call_p (leadingTo_c _ _) ?_
  conv => whnf
  refine call_o (push_c h0 h1 bs bm bf off u _ fs _ _ B1 ⟨true, 0⟩ hS1) ?_ ?_
  · rintro vv h2 ⟨k1, B2, hS2, ev2⟩
    conv => whnf
    first | refine hS2.ldF ?_ | skip
    conv => whnf
    refine hS2.stPc (fun h9 B9 hM9 ev9 => ?_)
    conv => whnf
    exact ⟨_, (by rw [hdo]; rw [show midS u ⟨2, a, b⟩ took M.objs { f with stack := rest } M.said = pushM M.objs { f with stack := rest } M.said ⟨true, 0⟩ from rfl]; rw [pushM_ok k1]; rfl), B9, hM9, ev1.trans (ev2.trans ev9)⟩
  · rintro c h2 ⟨k1, k2, k3⟩
    exact ⟨0, by rw [hdo]; rw [show midS u ⟨2, a, b⟩ took M.objs { f with stack := rest } M.said = pushM M.objs { f with stack := rest } M.said ⟨true, 0⟩ from rfl]; rw [pushM_bad k1], k2, k3⟩
theorem do_c3 (h0 h : Heap) (bs bm bf off : Nat) (u : Unt) (fs : List Frm) (f : Frm) (M : Mch) (B : List Nat) (a b : Int) (hS : SpH h0 h bs bm bf off u (mth u f.meth) fs f M B) (hu : UnitT u) (hI : MInv u M) (gp : ¬ ((mth u f.meth).code.length : Int) ≤ f.pc) (hxd : (mth u f.meth).code.getD f.pc.toNat noIns = ⟨3, a, b⟩) :
    CallsH Tryz.prog 189 [.pointer (some ⟨bs, 0, none⟩)] h (EndH h0 h bm B (doS u fs f M)) := by
  have hff : f ∈ M.frames := by rw [hS.frames]; simp
  have hF := hI.frm f hff
  have hmu := hu.2.2.2.1 _ (mth_mem hF.meth)
  have ok := hu.1
  obtain ⟨hpc0, hpc1⟩ := hF.pc
  have hlen12 := hmu.2.1.2.1
  obtain ⟨r1, r2, _, p, cc, q, d, hu1, r9, r10, r9n, p2, c2, r6, hcode⟩ := hS.mp
  obtain ⟨t0, q0, rr0, v10, v20, _, hbf0, hq0, s1, _⟩ := hS.pcT
  have hil : f.pc.toNat < (mth u f.meth).code.length := by omega
  have hxi : (mth u f.meth).code[f.pc.toNat] = ⟨3, a, b⟩ := by rw [← hxd]; simp [hil]
  have e := hcode.get hil
  rw [hxi] at e
  obtain ⟨bb, oo, xs, hq2, e1, e2, e3, e4, e5⟩ := e
  subst e2
  have e1' : rdn h bb (oo + f.pc.toNat * 3) 3 = some [.int .i64 3, .int .i64 a, .int .i64 b] := rdn_le' hS.ma.le e1
  have hxT := hmu.2.1.2.2.2.1 _ (List.getElem_mem hil)
  rw [hxi] at hxT
  have hi := (InsT_iff (u := u) (m := mth u f.meth) (a := a) (b := b) (k := 3) rfl).1 hxT
  refine outs Tryz.sigOk Tryz.func189 Tryz.F189 Tryz.ok189 rfl ?_
  conv => whnf
  repeat' ((first | refine ld r1 ?_ | refine ld s1 ?_ | refine ld r6 ?_ | refine ob (by omega) ?_ | refine ar_in (by omega) (by omega) ?_ | refine ptr ?_) <;> conv => whnf)
  refine selPf gp ?_
  conv => whnf
  repeat' ((first | refine ld r1 ?_ | refine ld s1 ?_ | refine ld r6 ?_ | refine ptr' hq2 ?_ | refine ldn e1' ?_ | refine ob (by omega) ?_ | refine ar_in (by omega) (by omega) ?_ | refine ptr ?_) <;> conv => whnf)
  refine call_o (take_c h0 h bs bm bf off u _ fs f M B ⟨3, a, b⟩ hS (InsT.ok hu hxT) (by have := hF.stk; omega)) ?_ ?_
  rotate_left
  · rintro c h' ⟨k1, k2, k3⟩
    refine ⟨0, ?_, k2, k3⟩
    unfold doS
    simp only [if_neg gp, hxd, k1]
  rintro vt h1 ⟨took, rest, htk, B1, Bt, hS1, ev1, ot, hbt⟩
  obtain ⟨ws, hws, htl, hok, hst⟩ := takeS_spec htk
  have hrest : rest.length ≤ 4 := by have := hF.stk; rw [hst] at this; simp at this; omega
  have htv : ∀ v ∈ took, v.ref = true → 0 ≤ v.n ∧ v.n ≤ M.objs.length := fun v hv => hF.vs v (by rw [hst]; simp [hv])
  obtain ⟨pt, ct, rfl, _⟩ := ot.form
  obtain ⟨t1, q1, rr1, v11, v21, w1, hbf1, hq1, w2, _⟩ := hS1.pcT
  have w2 : rd h1 bf (off + 1) = some (.int .i64 f.pc) := w2
  have hbt' : ∀ b ∈ Bt, b ∉ bm :: B1 ∧ b ≠ bs := fun b hb => ⟨(hbt b hb).1, (hbt b hb).2.1⟩
  have hdo := doS_mid (fs := fs) (M := M) gp hxd htk (by simp)
  have ha := hi.1
  simp [OperT] at ha
  have hloc := hF.loc
  have hal : a.toNat < f.locals.length := by omega
  obtain ⟨vl, Bl, l1, ol⟩ := hS1.locT
  have ol : OwnV h1 vl f.locals Bl := ol
  obtain ⟨pl, cl, rfl, _⟩ := ol.form
  have hne9 : 0 < f.locals.length := by omega
  have e9 := ol.all hne9
  obtain ⟨bl, hql, hnl, hall⟩ := e9
  have hnl : (List.map vl2 f.locals).length = f.locals.length := hnl
  have nl : rdn h1 bl (0 + a.toNat * 2) 2 = some (vl2 f.locals[a.toNat]) := (hall a.toNat hal).1
  conv => whnf
  repeat' ((first | refine ld w1 ?_ | refine ld w2 ?_ | refine ob (by omega) ?_ | refine ar_in (by omega) (by omega) ?_ | refine ptr ?_) <;> conv => whnf)
  repeat' ((first | refine ld w1 ?_ | refine ld l1 ?_ | refine ptr' hql ?_ | refine ldn nl ?_ | refine ob (by omega) ?_ | refine ar_in (by omega) (by omega) ?_ | refine ptr ?_) <;> conv => whnf)
  have hmid : midS u ⟨3, a, b⟩ took M.objs { f with stack := rest } M.said = pushM M.objs { f with stack := rest } M.said f.locals[a.toNat] := by
    show pushM _ _ _ (f.locals.getD a.toNat noVl) = _
    rw [getD_of hal]
  refine call_o (push_c h0 h1 bs bm bf off u _ fs _ _ B1 f.locals[a.toNat] hS1) ?_ ?_
  · rintro vv h2 ⟨k1, B2, hS2, ev2⟩
    conv => whnf
    first | refine hS2.ldF ?_ | skip
    conv => whnf
    refine hS2.stPc (fun h9 B9 hM9 ev9 => ?_)
    conv => whnf
    exact ⟨_, (by rw [hdo, hmid, pushM_ok k1]; rfl), B9, hM9, ev1.trans (ev2.trans ev9)⟩
  · rintro c h2 ⟨k1, k2, k3⟩
    exact ⟨0, by rw [hdo, hmid, pushM_bad k1], k2, k3⟩
theorem do_c4 (h0 h : Heap) (bs bm bf off : Nat) (u : Unt) (fs : List Frm) (f : Frm) (M : Mch) (B : List Nat) (a b : Int) (hS : SpH h0 h bs bm bf off u (mth u f.meth) fs f M B) (hu : UnitT u) (hI : MInv u M) (gp : ¬ ((mth u f.meth).code.length : Int) ≤ f.pc) (hxd : (mth u f.meth).code.getD f.pc.toNat noIns = ⟨4, a, b⟩) :
    CallsH Tryz.prog 189 [.pointer (some ⟨bs, 0, none⟩)] h (EndH h0 h bm B (doS u fs f M)) := by
  have hff : f ∈ M.frames := by rw [hS.frames]; simp
  have hF := hI.frm f hff
  have hmu := hu.2.2.2.1 _ (mth_mem hF.meth)
  have ok := hu.1
  obtain ⟨hpc0, hpc1⟩ := hF.pc
  have hlen12 := hmu.2.1.2.1
  obtain ⟨r1, r2, _, p, cc, q, d, hu1, r9, r10, r9n, p2, c2, r6, hcode⟩ := hS.mp
  obtain ⟨t0, q0, rr0, v10, v20, _, hbf0, hq0, s1, _⟩ := hS.pcT
  have hil : f.pc.toNat < (mth u f.meth).code.length := by omega
  have hxi : (mth u f.meth).code[f.pc.toNat] = ⟨4, a, b⟩ := by rw [← hxd]; simp [hil]
  have e := hcode.get hil
  rw [hxi] at e
  obtain ⟨bb, oo, xs, hq2, e1, e2, e3, e4, e5⟩ := e
  subst e2
  have e1' : rdn h bb (oo + f.pc.toNat * 3) 3 = some [.int .i64 4, .int .i64 a, .int .i64 b] := rdn_le' hS.ma.le e1
  have hxT := hmu.2.1.2.2.2.1 _ (List.getElem_mem hil)
  rw [hxi] at hxT
  have hi := (InsT_iff (u := u) (m := mth u f.meth) (a := a) (b := b) (k := 4) rfl).1 hxT
  refine outs Tryz.sigOk Tryz.func189 Tryz.F189 Tryz.ok189 rfl ?_
  conv => whnf
  repeat' ((first | refine ld r1 ?_ | refine ld s1 ?_ | refine ld r6 ?_ | refine ob (by omega) ?_ | refine ar_in (by omega) (by omega) ?_ | refine ptr ?_) <;> conv => whnf)
  refine selPf gp ?_
  conv => whnf
  repeat' ((first | refine ld r1 ?_ | refine ld s1 ?_ | refine ld r6 ?_ | refine ptr' hq2 ?_ | refine ldn e1' ?_ | refine ob (by omega) ?_ | refine ar_in (by omega) (by omega) ?_ | refine ptr ?_) <;> conv => whnf)
  refine call_o (take_c h0 h bs bm bf off u _ fs f M B ⟨4, a, b⟩ hS (InsT.ok hu hxT) (by have := hF.stk; omega)) ?_ ?_
  rotate_left
  · rintro c h' ⟨k1, k2, k3⟩
    refine ⟨0, ?_, k2, k3⟩
    unfold doS
    simp only [if_neg gp, hxd, k1]
  rintro vt h1 ⟨took, rest, htk, B1, Bt, hS1, ev1, ot, hbt⟩
  obtain ⟨ws, hws, htl, hok, hst⟩ := takeS_spec htk
  have hrest : rest.length ≤ 4 := by have := hF.stk; rw [hst] at this; simp at this; omega
  have htv : ∀ v ∈ took, v.ref = true → 0 ≤ v.n ∧ v.n ≤ M.objs.length := fun v hv => hF.vs v (by rw [hst]; simp [hv])
  have hw0 : ws = [0] := by simpa [seesL] using hws.symm
  rw [hw0] at htl hok
  obtain ⟨v0, rfl⟩ := one_of' htl
  obtain ⟨pt, ct, rfl, _⟩ := ot.form
  obtain ⟨t1, q1, rr1, v11, v21, w1, hbf1, hq1, w2, _⟩ := hS1.pcT
  have w2 : rd h1 bf (off + 1) = some (.int .i64 f.pc) := w2
  have hbt' : ∀ b ∈ Bt, b ∉ bm :: B1 ∧ b ≠ bs := fun b hb => ⟨(hbt b hb).1, (hbt b hb).2.1⟩
  have hdo := doS_mid (fs := fs) (M := M) gp hxd htk (by simp)
  have hl9 : (List.map vl2 [v0]).length = 1 := rfl
  have hne9 : 0 < List.length [v0] := by simp
  have e9 := ot.all hne9
  obtain ⟨b0, hq9, _, hall⟩ := e9
  have n0 := (hall 0 (by simp)).1
  have m0 := (hall 0 (by simp)).2
  simp only [List.getElem_cons_zero, List.getElem_cons_succ] at n0 m0
  have ha := hi.1
  simp [OperT] at ha
  have hloc := hF.loc
  have hal : a.toNat < f.locals.length := by omega
  obtain ⟨tl, ql, rl, vl1, vl2', Bl1, Bl2, hbl, hql0, ol1, ol2, ndl, _, hnel, nel1, nel2, rebl⟩ := hS1.lens
  have ol1 : OwnV h1 vl1 f.locals Bl1 := ol1
  obtain ⟨pl, cl, rfl, _⟩ := ol1.form
  have l1 : rd h1 bf (off + 2) = some (.slice pl (List.map vl2 f.locals).length cl) := rd_mid hbl (i := 2) (by omega) rfl
  obtain ⟨bl, pre, xx, post, tt0, hpl, hnl, hbb, hprel, hxx, rfl, rebv⟩ := OwnC.put (l := f.locals) ol1 hal
  conv => whnf
  repeat' ((first | refine ld w1 ?_ | refine ld w2 ?_ | refine ob (by omega) ?_ | refine ar_in (by omega) (by omega) ?_ | refine ptr ?_) <;> conv => whnf)
  repeat' ((first | refine ld w1 ?_ | refine ld l1 ?_ | refine ptr' hpl ?_ | refine ptr' hq9 ?_ | refine ldn n0 ?_ | refine ob (by omega) ?_ | refine ar_in (by omega) (by omega) ?_ | refine ptr ?_) <;> conv => whnf)
  refine sth hbb (pre ++ vl2 v0 ++ post) (by simp [hxx, vl2, hprel] <;> omega) (wr_all (by rw [hprel]; show 0 + a.toNat * 2 = a.toNat * 2; omega) (by rw [hxx]; rfl)) (fun h2 hh2 hg2 => ?_)
  have hblbf : bl ≠ bf := (hnel bl (by simp)).1
  obtain ⟨B2, hS2, ev2⟩ := rebl h2 { f with stack := rest, locals := f.locals.set a.toNat v0 } (.slice pl (List.map vl2 f.locals).length cl) vl2' [bl] Bl2 (by rw [hh2]; simp only [Heap.set, Ne.symm hblbf, if_false]; exact hbl)
    (fun x hx hn => by rw [hh2]; simp only [Heap.set]; rw [if_neg (fun hy => hx (by simp [hy]))])
    (rebv h2 v0 hg2)
    (ol2.keep fun x hx o ho => by
      have hxb : x ≠ bl := by
        rintro rfl
        have := ndl x
        have := List.count_pos_iff.2 hx
        simp only [List.count_append, List.count_cons, beq_self_eq_true, if_true] at *
        omega
      rw [hh2]; simp only [Heap.set, hxb, if_false]; exact ho)
    (fun x hx => .inl hx) ndl
  conv => whnf
  first | refine hS2.ldF ?_ | skip
  conv => whnf
  refine hS2.stPc (fun h9 B9 hM9 ev9 => ?_)
  conv => whnf
  exact ⟨_, (by rw [hdo]; rfl), B9, hM9, ev1.trans (ev2.trans ev9)⟩
theorem do_c5 (h0 h : Heap) (bs bm bf off : Nat) (u : Unt) (fs : List Frm) (f : Frm) (M : Mch) (B : List Nat) (a b : Int) (hS : SpH h0 h bs bm bf off u (mth u f.meth) fs f M B) (hu : UnitT u) (hI : MInv u M) (gp : ¬ ((mth u f.meth).code.length : Int) ≤ f.pc) (hxd : (mth u f.meth).code.getD f.pc.toNat noIns = ⟨5, a, b⟩) :
    CallsH Tryz.prog 189 [.pointer (some ⟨bs, 0, none⟩)] h (EndH h0 h bm B (doS u fs f M)) := by
  have hff : f ∈ M.frames := by rw [hS.frames]; simp
  have hF := hI.frm f hff
  have hmu := hu.2.2.2.1 _ (mth_mem hF.meth)
  have ok := hu.1
  obtain ⟨hpc0, hpc1⟩ := hF.pc
  have hlen12 := hmu.2.1.2.1
  obtain ⟨r1, r2, _, p, cc, q, d, hu1, r9, r10, r9n, p2, c2, r6, hcode⟩ := hS.mp
  obtain ⟨t0, q0, rr0, v10, v20, _, hbf0, hq0, s1, _⟩ := hS.pcT
  have hil : f.pc.toNat < (mth u f.meth).code.length := by omega
  have hxi : (mth u f.meth).code[f.pc.toNat] = ⟨5, a, b⟩ := by rw [← hxd]; simp [hil]
  have e := hcode.get hil
  rw [hxi] at e
  obtain ⟨bb, oo, xs, hq2, e1, e2, e3, e4, e5⟩ := e
  subst e2
  have e1' : rdn h bb (oo + f.pc.toNat * 3) 3 = some [.int .i64 5, .int .i64 a, .int .i64 b] := rdn_le' hS.ma.le e1
  have hxT := hmu.2.1.2.2.2.1 _ (List.getElem_mem hil)
  rw [hxi] at hxT
  have hi := (InsT_iff (u := u) (m := mth u f.meth) (a := a) (b := b) (k := 5) rfl).1 hxT
  refine outs Tryz.sigOk Tryz.func189 Tryz.F189 Tryz.ok189 rfl ?_
  conv => whnf
  repeat' ((first | refine ld r1 ?_ | refine ld s1 ?_ | refine ld r6 ?_ | refine ob (by omega) ?_ | refine ar_in (by omega) (by omega) ?_ | refine ptr ?_) <;> conv => whnf)
  refine selPf gp ?_
  conv => whnf
  repeat' ((first | refine ld r1 ?_ | refine ld s1 ?_ | refine ld r6 ?_ | refine ptr' hq2 ?_ | refine ldn e1' ?_ | refine ob (by omega) ?_ | refine ar_in (by omega) (by omega) ?_ | refine ptr ?_) <;> conv => whnf)
  refine call_o (take_c h0 h bs bm bf off u _ fs f M B ⟨5, a, b⟩ hS (InsT.ok hu hxT) (by have := hF.stk; omega)) ?_ ?_
  rotate_left
  · rintro c h' ⟨k1, k2, k3⟩
    refine ⟨0, ?_, k2, k3⟩
    unfold doS
    simp only [if_neg gp, hxd, k1]
  rintro vt h1 ⟨took, rest, htk, B1, Bt, hS1, ev1, ot, hbt⟩
  obtain ⟨ws, hws, htl, hok, hst⟩ := takeS_spec htk
  have hrest : rest.length ≤ 4 := by have := hF.stk; rw [hst] at this; simp at this; omega
  have htv : ∀ v ∈ took, v.ref = true → 0 ≤ v.n ∧ v.n ≤ M.objs.length := fun v hv => hF.vs v (by rw [hst]; simp [hv])
  obtain ⟨pt, ct, rfl, _⟩ := ot.form
  obtain ⟨t1, q1, rr1, v11, v21, w1, hbf1, hq1, w2, _⟩ := hS1.pcT
  have w2 : rd h1 bf (off + 1) = some (.int .i64 f.pc) := w2
  have hbt' : ∀ b ∈ Bt, b ∉ bm :: B1 ∧ b ≠ bs := fun b hb => ⟨(hbt b hb).1, (hbt b hb).2.1⟩
  have hdo := doS_mid (fs := fs) (M := M) gp hxd htk (by simp)
  conv => whnf
  repeat' ((first | refine ld w1 ?_ | refine ld w2 ?_ | refine ob (by omega) ?_ | refine ar_in (by omega) (by omega) ?_ | refine ptr ?_) <;> conv => whnf)
  first | refine hS1.ldF ?_ | skip
  conv => whnf
  refine hS1.stPc (fun h9 B9 hM9 ev9 => ?_)
  conv => whnf
  exact ⟨_, (by rw [hdo]; rfl), B9, hM9, ev1.trans ev9⟩
theorem do_c6 (h0 h : Heap) (bs bm bf off : Nat) (u : Unt) (fs : List Frm) (f : Frm) (M : Mch) (B : List Nat) (a b : Int) (hS : SpH h0 h bs bm bf off u (mth u f.meth) fs f M B) (hu : UnitT u) (hI : MInv u M) (gp : ¬ ((mth u f.meth).code.length : Int) ≤ f.pc) (hxd : (mth u f.meth).code.getD f.pc.toNat noIns = ⟨6, a, b⟩) :
    CallsH Tryz.prog 189 [.pointer (some ⟨bs, 0, none⟩)] h (EndH h0 h bm B (doS u fs f M)) := by
  have hff : f ∈ M.frames := by rw [hS.frames]; simp
  have hF := hI.frm f hff
  have hmu := hu.2.2.2.1 _ (mth_mem hF.meth)
  have ok := hu.1
  obtain ⟨hpc0, hpc1⟩ := hF.pc
  have hlen12 := hmu.2.1.2.1
  obtain ⟨r1, r2, _, p, cc, q, d, hu1, r9, r10, r9n, p2, c2, r6, hcode⟩ := hS.mp
  obtain ⟨t0, q0, rr0, v10, v20, _, hbf0, hq0, s1, _⟩ := hS.pcT
  have hil : f.pc.toNat < (mth u f.meth).code.length := by omega
  have hxi : (mth u f.meth).code[f.pc.toNat] = ⟨6, a, b⟩ := by rw [← hxd]; simp [hil]
  have e := hcode.get hil
  rw [hxi] at e
  obtain ⟨bb, oo, xs, hq2, e1, e2, e3, e4, e5⟩ := e
  subst e2
  have e1' : rdn h bb (oo + f.pc.toNat * 3) 3 = some [.int .i64 6, .int .i64 a, .int .i64 b] := rdn_le' hS.ma.le e1
  have hxT := hmu.2.1.2.2.2.1 _ (List.getElem_mem hil)
  rw [hxi] at hxT
  have hi := (InsT_iff (u := u) (m := mth u f.meth) (a := a) (b := b) (k := 6) rfl).1 hxT
  refine outs Tryz.sigOk Tryz.func189 Tryz.F189 Tryz.ok189 rfl ?_
  conv => whnf
  repeat' ((first | refine ld r1 ?_ | refine ld s1 ?_ | refine ld r6 ?_ | refine ob (by omega) ?_ | refine ar_in (by omega) (by omega) ?_ | refine ptr ?_) <;> conv => whnf)
  refine selPf gp ?_
  conv => whnf
  repeat' ((first | refine ld r1 ?_ | refine ld s1 ?_ | refine ld r6 ?_ | refine ptr' hq2 ?_ | refine ldn e1' ?_ | refine ob (by omega) ?_ | refine ar_in (by omega) (by omega) ?_ | refine ptr ?_) <;> conv => whnf)
  refine call_o (take_c h0 h bs bm bf off u _ fs f M B ⟨6, a, b⟩ hS (InsT.ok hu hxT) (by have := hF.stk; omega)) ?_ ?_
  rotate_left
  · rintro c h' ⟨k1, k2, k3⟩
    refine ⟨0, ?_, k2, k3⟩
    unfold doS
    simp only [if_neg gp, hxd, k1]
  rintro vt h1 ⟨took, rest, htk, B1, Bt, hS1, ev1, ot, hbt⟩
  obtain ⟨ws, hws, htl, hok, hst⟩ := takeS_spec htk
  have hrest : rest.length ≤ 4 := by have := hF.stk; rw [hst] at this; simp at this; omega
  have htv : ∀ v ∈ took, v.ref = true → 0 ≤ v.n ∧ v.n ≤ M.objs.length := fun v hv => hF.vs v (by rw [hst]; simp [hv])
  have hw0 : ws = [0] := by simpa [seesL] using hws.symm
  rw [hw0] at htl hok
  obtain ⟨v0, rfl⟩ := one_of' htl
  obtain ⟨pt, ct, rfl, _⟩ := ot.form
  obtain ⟨t1, q1, rr1, v11, v21, w1, hbf1, hq1, w2, _⟩ := hS1.pcT
  have w2 : rd h1 bf (off + 1) = some (.int .i64 f.pc) := w2
  have hbt' : ∀ b ∈ Bt, b ∉ bm :: B1 ∧ b ≠ bs := fun b hb => ⟨(hbt b hb).1, (hbt b hb).2.1⟩
  have hdo := doS_mid (fs := fs) (M := M) gp hxd htk (by simp)
  have hl9 : (List.map vl2 [v0]).length = 1 := rfl
  have hne9 : 0 < List.length [v0] := by simp
  have e9 := ot.all hne9
  obtain ⟨b0, hq9, _, hall⟩ := e9
  have n0 := (hall 0 (by simp)).1
  have m0 := (hall 0 (by simp)).2
  simp only [List.getElem_cons_zero, List.getElem_cons_succ] at n0 m0
  have hb0 := OwnC.blk (b := b0) (by rw [hq9] at ot; exact ot)
  conv => whnf
  repeat' ((first | refine ld w1 ?_ | refine ld w2 ?_ | refine ob (by omega) ?_ | refine ar_in (by omega) (by omega) ?_ | refine ptr ?_) <;> conv => whnf)
  repeat' ((first | refine ptr' hq9 ?_ | refine ldn n0 ?_ | refine ob (by omega) ?_ | refine ar_in (by omega) (by omega) ?_ | refine ptr ?_) <;> conv => whnf)
  have hm1 : rest.length < 4 → midS u ⟨6, a, b⟩ [v0] M.objs { f with stack := rest } M.said = pushM M.objs { f with stack := rest ++ [v0] } M.said v0 := by
    intro h
    show (match pushS M.objs { f with stack := rest } v0 with | .ok (_, g) => pushM M.objs g M.said v0 | .error e => .error e) = _
    rw [pushS, if_pos h]
  have hm2 : 4 ≤ rest.length → midS u ⟨6, a, b⟩ [v0] M.objs { f with stack := rest } M.said = .error 0 := by
    intro h
    show (match pushS M.objs { f with stack := rest } v0 with | .ok (_, g) => pushM M.objs g M.said v0 | .error e => .error e) = _
    rw [pushS, if_neg (by show ¬ rest.length < 4; omega)]
  refine call_o (push_c h0 h1 bs bm bf off u _ fs _ _ B1 v0 hS1) ?_ ?_
  · rintro vv h2 ⟨k1, B2, hS2, ev2⟩
    have n02 := (rdn_cong (ev2.old b0 hb0.2 (hbt' b0 hb0.1).1) 2 (0 + 0 * 2)).trans n0
    conv => whnf
    repeat' ((first | refine ptr' hq9 ?_ | refine ldn n02 ?_ | refine ob (by omega) ?_ | refine ar_in (by omega) (by omega) ?_ | refine ptr ?_) <;> conv => whnf)
    refine call_o (push_c h0 h2 bs bm bf off u _ fs _ _ B2 v0 hS2) ?_ ?_
    · rintro vv h3 ⟨k4, B3, hS3, ev3⟩
      conv => whnf
      first | refine hS3.ldF ?_ | skip
      conv => whnf
      refine hS3.stPc (fun h9 B9 hM9 ev9 => ?_)
      conv => whnf
      exact ⟨_, (by rw [hdo, hm1 k1, pushM_ok k4]; rfl), B9, hM9, ev1.trans (ev2.trans (ev3.trans ev9))⟩
    · rintro c h3 ⟨k4, k5, k6⟩
      exact ⟨0, by rw [hdo, hm1 k1, pushM_bad k4], k5, k6⟩
  · rintro c h2 ⟨k1, k2, k3⟩
    exact ⟨0, by rw [hdo, hm2 k1], k2, k3⟩
theorem do_c7 (h0 h : Heap) (bs bm bf off : Nat) (u : Unt) (fs : List Frm) (f : Frm) (M : Mch) (B : List Nat) (a b : Int) (hS : SpH h0 h bs bm bf off u (mth u f.meth) fs f M B) (hu : UnitT u) (hI : MInv u M) (gp : ¬ ((mth u f.meth).code.length : Int) ≤ f.pc) (hxd : (mth u f.meth).code.getD f.pc.toNat noIns = ⟨7, a, b⟩) :
    CallsH Tryz.prog 189 [.pointer (some ⟨bs, 0, none⟩)] h (EndH h0 h bm B (doS u fs f M)) := by
  have hff : f ∈ M.frames := by rw [hS.frames]; simp
  have hF := hI.frm f hff
  have hmu := hu.2.2.2.1 _ (mth_mem hF.meth)
  have ok := hu.1
  obtain ⟨hpc0, hpc1⟩ := hF.pc
  have hlen12 := hmu.2.1.2.1
  obtain ⟨r1, r2, _, p, cc, q, d, hu1, r9, r10, r9n, p2, c2, r6, hcode⟩ := hS.mp
  obtain ⟨t0, q0, rr0, v10, v20, _, hbf0, hq0, s1, _⟩ := hS.pcT
  have hil : f.pc.toNat < (mth u f.meth).code.length := by omega
  have hxi : (mth u f.meth).code[f.pc.toNat] = ⟨7, a, b⟩ := by rw [← hxd]; simp [hil]
  have e := hcode.get hil
  rw [hxi] at e
  obtain ⟨bb, oo, xs, hq2, e1, e2, e3, e4, e5⟩ := e
  subst e2
  have e1' : rdn h bb (oo + f.pc.toNat * 3) 3 = some [.int .i64 7, .int .i64 a, .int .i64 b] := rdn_le' hS.ma.le e1
  have hxT := hmu.2.1.2.2.2.1 _ (List.getElem_mem hil)
  rw [hxi] at hxT
  have hi := (InsT_iff (u := u) (m := mth u f.meth) (a := a) (b := b) (k := 7) rfl).1 hxT
  refine outs Tryz.sigOk Tryz.func189 Tryz.F189 Tryz.ok189 rfl ?_
  conv => whnf
  repeat' ((first | refine ld r1 ?_ | refine ld s1 ?_ | refine ld r6 ?_ | refine ob (by omega) ?_ | refine ar_in (by omega) (by omega) ?_ | refine ptr ?_) <;> conv => whnf)
  refine selPf gp ?_
  conv => whnf
  repeat' ((first | refine ld r1 ?_ | refine ld s1 ?_ | refine ld r6 ?_ | refine ptr' hq2 ?_ | refine ldn e1' ?_ | refine ob (by omega) ?_ | refine ar_in (by omega) (by omega) ?_ | refine ptr ?_) <;> conv => whnf)
  refine call_o (take_c h0 h bs bm bf off u _ fs f M B ⟨7, a, b⟩ hS (InsT.ok hu hxT) (by have := hF.stk; omega)) ?_ ?_
  rotate_left
  · rintro c h' ⟨k1, k2, k3⟩
    refine ⟨0, ?_, k2, k3⟩
    unfold doS
    simp only [if_neg gp, hxd, k1]
  rintro vt h1 ⟨took, rest, htk, B1, Bt, hS1, ev1, ot, hbt⟩
  obtain ⟨ws, hws, htl, hok, hst⟩ := takeS_spec htk
  have hrest : rest.length ≤ 4 := by have := hF.stk; rw [hst] at this; simp at this; omega
  have htv : ∀ v ∈ took, v.ref = true → 0 ≤ v.n ∧ v.n ≤ M.objs.length := fun v hv => hF.vs v (by rw [hst]; simp [hv])
  have hw0 : ws = [1, 1] := by simpa [seesL] using hws.symm
  rw [hw0] at htl hok
  obtain ⟨v0, v1, rfl⟩ := two_of htl
  obtain ⟨pt, ct, rfl, _⟩ := ot.form
  obtain ⟨t1, q1, rr1, v11, v21, w1, hbf1, hq1, w2, _⟩ := hS1.pcT
  have w2 : rd h1 bf (off + 1) = some (.int .i64 f.pc) := w2
  have hbt' : ∀ b ∈ Bt, b ∉ bm :: B1 ∧ b ≠ bs := fun b hb => ⟨(hbt b hb).1, (hbt b hb).2.1⟩
  have hdo := doS_mid (fs := fs) (M := M) gp hxd htk (by simp)
  have hl9 : (List.map vl2 [v0, v1]).length = 2 := rfl
  have hne9 : 0 < List.length [v0, v1] := by simp
  have e9 := ot.all hne9
  obtain ⟨b0, hq9, _, hall⟩ := e9
  have n0 := (hall 0 (by simp)).1
  have m0 := (hall 0 (by simp)).2
  have n1 := (hall 1 (by simp)).1
  have m1 := (hall 1 (by simp)).2
  simp only [List.getElem_cons_zero, List.getElem_cons_succ] at n0 m0 n1 m1
  conv => whnf
  repeat' ((first | refine ld w1 ?_ | refine ld w2 ?_ | refine ob (by omega) ?_ | refine ar_in (by omega) (by omega) ?_ | refine ptr ?_) <;> conv => whnf)
  repeat' ((first | refine ptr' hq9 ?_ | refine ld m0 ?_ | refine ld m1 ?_ | refine ob (by omega) ?_ | refine ar_in (by omega) (by omega) ?_ | refine ptr ?_) <;> conv => whnf)
  have hmid : midS u ⟨7, a, b⟩ [v0, v1] M.objs { f with stack := rest } M.said = (if (intDo a v0.n v1.n).2 then pushM M.objs { f with stack := rest } M.said ⟨false, (intDo a v0.n v1.n).1⟩ else .error 1) := rfl
  refine callX_p (iIntDo_c a v0.n v1.n h1) ?_
  unfold prI
  conv => whnf
  refine selNB (fun g => ?_) (fun g => ?_)
  all_goals conv => whnf
  · exact ⟨1, by rw [hdo, hmid, g]; rfl, rfl, hS1.ma.pn⟩
  · rw [g] at hmid
    refine call_o (push_c h0 h1 bs bm bf off u _ fs _ _ B1 ⟨false, (intDo a v0.n v1.n).1⟩ hS1) ?_ ?_
    · rintro vv h2 ⟨k1, B2, hS2, ev2⟩
      conv => whnf
      first | refine hS2.ldF ?_ | skip
      conv => whnf
      refine hS2.stPc (fun h9 B9 hM9 ev9 => ?_)
      conv => whnf
      exact ⟨_, (by rw [hdo, hmid, if_pos rfl, pushM_ok k1]; rfl), B9, hM9, ev1.trans (ev2.trans ev9)⟩
    · rintro c h2 ⟨k1, k2, k3⟩
      exact ⟨0, by rw [hdo, hmid, if_pos rfl, pushM_bad k1], k2, k3⟩
theorem do_c8 (h0 h : Heap) (bs bm bf off : Nat) (u : Unt) (fs : List Frm) (f : Frm) (M : Mch) (B : List Nat) (a b : Int) (hS : SpH h0 h bs bm bf off u (mth u f.meth) fs f M B) (hu : UnitT u) (hI : MInv u M) (gp : ¬ ((mth u f.meth).code.length : Int) ≤ f.pc) (hxd : (mth u f.meth).code.getD f.pc.toNat noIns = ⟨8, a, b⟩) :
    CallsH Tryz.prog 189 [.pointer (some ⟨bs, 0, none⟩)] h (EndH h0 h bm B (doS u fs f M)) := by
  have hff : f ∈ M.frames := by rw [hS.frames]; simp
  have hF := hI.frm f hff
  have hmu := hu.2.2.2.1 _ (mth_mem hF.meth)
  have ok := hu.1
  obtain ⟨hpc0, hpc1⟩ := hF.pc
  have hlen12 := hmu.2.1.2.1
  obtain ⟨r1, r2, _, p, cc, q, d, hu1, r9, r10, r9n, p2, c2, r6, hcode⟩ := hS.mp
  obtain ⟨t0, q0, rr0, v10, v20, _, hbf0, hq0, s1, _⟩ := hS.pcT
  have hil : f.pc.toNat < (mth u f.meth).code.length := by omega
  have hxi : (mth u f.meth).code[f.pc.toNat] = ⟨8, a, b⟩ := by rw [← hxd]; simp [hil]
  have e := hcode.get hil
  rw [hxi] at e
  obtain ⟨bb, oo, xs, hq2, e1, e2, e3, e4, e5⟩ := e
  subst e2
  have e1' : rdn h bb (oo + f.pc.toNat * 3) 3 = some [.int .i64 8, .int .i64 a, .int .i64 b] := rdn_le' hS.ma.le e1
  have hxT := hmu.2.1.2.2.2.1 _ (List.getElem_mem hil)
  rw [hxi] at hxT
  have hi := (InsT_iff (u := u) (m := mth u f.meth) (a := a) (b := b) (k := 8) rfl).1 hxT
  refine outs Tryz.sigOk Tryz.func189 Tryz.F189 Tryz.ok189 rfl ?_
  conv => whnf
  repeat' ((first | refine ld r1 ?_ | refine ld s1 ?_ | refine ld r6 ?_ | refine ob (by omega) ?_ | refine ar_in (by omega) (by omega) ?_ | refine ptr ?_) <;> conv => whnf)
  refine selPf gp ?_
  conv => whnf
  repeat' ((first | refine ld r1 ?_ | refine ld s1 ?_ | refine ld r6 ?_ | refine ptr' hq2 ?_ | refine ldn e1' ?_ | refine ob (by omega) ?_ | refine ar_in (by omega) (by omega) ?_ | refine ptr ?_) <;> conv => whnf)
  refine call_o (take_c h0 h bs bm bf off u _ fs f M B ⟨8, a, b⟩ hS (InsT.ok hu hxT) (by have := hF.stk; omega)) ?_ ?_
  rotate_left
  · rintro c h' ⟨k1, k2, k3⟩
    refine ⟨0, ?_, k2, k3⟩
    unfold doS
    simp only [if_neg gp, hxd, k1]
  rintro vt h1 ⟨took, rest, htk, B1, Bt, hS1, ev1, ot, hbt⟩
  obtain ⟨ws, hws, htl, hok, hst⟩ := takeS_spec htk
  have hrest : rest.length ≤ 4 := by have := hF.stk; rw [hst] at this; simp at this; omega
  have htv : ∀ v ∈ took, v.ref = true → 0 ≤ v.n ∧ v.n ≤ M.objs.length := fun v hv => hF.vs v (by rw [hst]; simp [hv])
  have hw0 : ws = [1, 1] := by simpa [seesL] using hws.symm
  rw [hw0] at htl hok
  obtain ⟨v0, v1, rfl⟩ := two_of htl
  obtain ⟨pt, ct, rfl, _⟩ := ot.form
  obtain ⟨t1, q1, rr1, v11, v21, w1, hbf1, hq1, w2, _⟩ := hS1.pcT
  have w2 : rd h1 bf (off + 1) = some (.int .i64 f.pc) := w2
  have hbt' : ∀ b ∈ Bt, b ∉ bm :: B1 ∧ b ≠ bs := fun b hb => ⟨(hbt b hb).1, (hbt b hb).2.1⟩
  have hdo := doS_mid (fs := fs) (M := M) gp hxd htk (by simp)
  have hl9 : (List.map vl2 [v0, v1]).length = 2 := rfl
  have hne9 : 0 < List.length [v0, v1] := by simp
  have e9 := ot.all hne9
  obtain ⟨b0, hq9, _, hall⟩ := e9
  have n0 := (hall 0 (by simp)).1
  have m0 := (hall 0 (by simp)).2
  have n1 := (hall 1 (by simp)).1
  have m1 := (hall 1 (by simp)).2
  simp only [List.getElem_cons_zero, List.getElem_cons_succ] at n0 m0 n1 m1
  conv => whnf
  repeat' ((first | refine ld w1 ?_ | refine ld w2 ?_ | refine ob (by omega) ?_ | refine ar_in (by omega) (by omega) ?_ | refine ptr ?_) <;> conv => whnf)
  repeat' ((first | refine ptr' hq9 ?_ | refine ld m0 ?_ | refine ld m1 ?_ | refine ob (by omega) ?_ | refine ar_in (by omega) (by omega) ?_ | refine ptr ?_) <;> conv => whnf)
  have hmid : midS u ⟨8, a, b⟩ [v0, v1] M.objs { f with stack := rest } M.said = .ok (M.objs, { f with stack := rest }, M.said, decide (v0.n < v1.n)) := rfl
  refine selP (fun g => ?_) (fun g => ?_)
  all_goals conv => whnf
  · rw [decide_eq_true g] at hmid
    first | refine hS1.ldF ?_ | skip
    conv => whnf
    refine hS1.stPc (fun h9 B9 hM9 ev9 => ?_)
    conv => whnf
    exact ⟨_, (by rw [hdo, hmid]; rfl), B9, hM9, ev1.trans ev9⟩
  · rw [decide_eq_false g] at hmid
    first | refine hS1.ldF ?_ | skip
    conv => whnf
    refine hS1.stPc (fun h9 B9 hM9 ev9 => ?_)
    conv => whnf
    exact ⟨_, (by rw [hdo, hmid]; rfl), B9, hM9, ev1.trans ev9⟩
theorem do_c9 (h0 h : Heap) (bs bm bf off : Nat) (u : Unt) (fs : List Frm) (f : Frm) (M : Mch) (B : List Nat) (a b : Int) (hS : SpH h0 h bs bm bf off u (mth u f.meth) fs f M B) (hu : UnitT u) (hI : MInv u M) (gp : ¬ ((mth u f.meth).code.length : Int) ≤ f.pc) (hxd : (mth u f.meth).code.getD f.pc.toNat noIns = ⟨9, a, b⟩) :
    CallsH Tryz.prog 189 [.pointer (some ⟨bs, 0, none⟩)] h (EndH h0 h bm B (doS u fs f M)) := by
  have hff : f ∈ M.frames := by rw [hS.frames]; simp
  have hF := hI.frm f hff
  have hmu := hu.2.2.2.1 _ (mth_mem hF.meth)
  have ok := hu.1
  obtain ⟨hpc0, hpc1⟩ := hF.pc
  have hlen12 := hmu.2.1.2.1
  obtain ⟨r1, r2, _, p, cc, q, d, hu1, r9, r10, r9n, p2, c2, r6, hcode⟩ := hS.mp
  obtain ⟨t0, q0, rr0, v10, v20, _, hbf0, hq0, s1, _⟩ := hS.pcT
  have hil : f.pc.toNat < (mth u f.meth).code.length := by omega
  have hxi : (mth u f.meth).code[f.pc.toNat] = ⟨9, a, b⟩ := by rw [← hxd]; simp [hil]
  have e := hcode.get hil
  rw [hxi] at e
  obtain ⟨bb, oo, xs, hq2, e1, e2, e3, e4, e5⟩ := e
  subst e2
  have e1' : rdn h bb (oo + f.pc.toNat * 3) 3 = some [.int .i64 9, .int .i64 a, .int .i64 b] := rdn_le' hS.ma.le e1
  have hxT := hmu.2.1.2.2.2.1 _ (List.getElem_mem hil)
  rw [hxi] at hxT
  have hi := (InsT_iff (u := u) (m := mth u f.meth) (a := a) (b := b) (k := 9) rfl).1 hxT
  refine outs Tryz.sigOk Tryz.func189 Tryz.F189 Tryz.ok189 rfl ?_
  conv => whnf
  repeat' ((first | refine ld r1 ?_ | refine ld s1 ?_ | refine ld r6 ?_ | refine ob (by omega) ?_ | refine ar_in (by omega) (by omega) ?_ | refine ptr ?_) <;> conv => whnf)
  refine selPf gp ?_
  conv => whnf
  repeat' ((first | refine ld r1 ?_ | refine ld s1 ?_ | refine ld r6 ?_ | refine ptr' hq2 ?_ | refine ldn e1' ?_ | refine ob (by omega) ?_ | refine ar_in (by omega) (by omega) ?_ | refine ptr ?_) <;> conv => whnf)
  refine call_o (take_c h0 h bs bm bf off u _ fs f M B ⟨9, a, b⟩ hS (InsT.ok hu hxT) (by have := hF.stk; omega)) ?_ ?_
  rotate_left
  · rintro c h' ⟨k1, k2, k3⟩
    refine ⟨0, ?_, k2, k3⟩
    unfold doS
    simp only [if_neg gp, hxd, k1]
  rintro vt h1 ⟨took, rest, htk, B1, Bt, hS1, ev1, ot, hbt⟩
  obtain ⟨ws, hws, htl, hok, hst⟩ := takeS_spec htk
  have hrest : rest.length ≤ 4 := by have := hF.stk; rw [hst] at this; simp at this; omega
  have htv : ∀ v ∈ took, v.ref = true → 0 ≤ v.n ∧ v.n ≤ M.objs.length := fun v hv => hF.vs v (by rw [hst]; simp [hv])
  have hw0 : ws = [1, 1] := by simpa [seesL] using hws.symm
  rw [hw0] at htl hok
  obtain ⟨v0, v1, rfl⟩ := two_of htl
  obtain ⟨pt, ct, rfl, _⟩ := ot.form
  obtain ⟨t1, q1, rr1, v11, v21, w1, hbf1, hq1, w2, _⟩ := hS1.pcT
  have w2 : rd h1 bf (off + 1) = some (.int .i64 f.pc) := w2
  have hbt' : ∀ b ∈ Bt, b ∉ bm :: B1 ∧ b ≠ bs := fun b hb => ⟨(hbt b hb).1, (hbt b hb).2.1⟩
  have hdo := doS_mid (fs := fs) (M := M) gp hxd htk (by simp)
  have hl9 : (List.map vl2 [v0, v1]).length = 2 := rfl
  have hne9 : 0 < List.length [v0, v1] := by simp
  have e9 := ot.all hne9
  obtain ⟨b0, hq9, _, hall⟩ := e9
  have n0 := (hall 0 (by simp)).1
  have m0 := (hall 0 (by simp)).2
  have n1 := (hall 1 (by simp)).1
  have m1 := (hall 1 (by simp)).2
  simp only [List.getElem_cons_zero, List.getElem_cons_succ] at n0 m0 n1 m1
  conv => whnf
  repeat' ((first | refine ld w1 ?_ | refine ld w2 ?_ | refine ob (by omega) ?_ | refine ar_in (by omega) (by omega) ?_ | refine ptr ?_) <;> conv => whnf)
  repeat' ((first | refine ptr' hq9 ?_ | refine ld m0 ?_ | refine ld m1 ?_ | refine ob (by omega) ?_ | refine ar_in (by omega) (by omega) ?_ | refine ptr ?_) <;> conv => whnf)
  have hmid : midS u ⟨9, a, b⟩ [v0, v1] M.objs { f with stack := rest } M.said = .ok (M.objs, { f with stack := rest }, M.said, decide (v0.n = v1.n)) := rfl
  refine selP (fun g => ?_) (fun g => ?_)
  all_goals conv => whnf
  · rw [decide_eq_true g] at hmid
    first | refine hS1.ldF ?_ | skip
    conv => whnf
    refine hS1.stPc (fun h9 B9 hM9 ev9 => ?_)
    conv => whnf
    exact ⟨_, (by rw [hdo, hmid]; rfl), B9, hM9, ev1.trans ev9⟩
  · rw [decide_eq_false g] at hmid
    first | refine hS1.ldF ?_ | skip
    conv => whnf
    refine hS1.stPc (fun h9 B9 hM9 ev9 => ?_)
    conv => whnf
    exact ⟨_, (by rw [hdo, hmid]; rfl), B9, hM9, ev1.trans ev9⟩
theorem do_c10 (h0 h : Heap) (bs bm bf off : Nat) (u : Unt) (fs : List Frm) (f : Frm) (M : Mch) (B : List Nat) (a b : Int) (hS : SpH h0 h bs bm bf off u (mth u f.meth) fs f M B) (hu : UnitT u) (hI : MInv u M) (gp : ¬ ((mth u f.meth).code.length : Int) ≤ f.pc) (hxd : (mth u f.meth).code.getD f.pc.toNat noIns = ⟨10, a, b⟩) :
    CallsH Tryz.prog 189 [.pointer (some ⟨bs, 0, none⟩)] h (EndH h0 h bm B (doS u fs f M)) := by
  have hff : f ∈ M.frames := by rw [hS.frames]; simp
  have hF := hI.frm f hff
  have hmu := hu.2.2.2.1 _ (mth_mem hF.meth)
  have ok := hu.1
  obtain ⟨hpc0, hpc1⟩ := hF.pc
  have hlen12 := hmu.2.1.2.1
  obtain ⟨r1, r2, _, p, cc, q, d, hu1, r9, r10, r9n, p2, c2, r6, hcode⟩ := hS.mp
  obtain ⟨t0, q0, rr0, v10, v20, _, hbf0, hq0, s1, _⟩ := hS.pcT
  have hil : f.pc.toNat < (mth u f.meth).code.length := by omega
  have hxi : (mth u f.meth).code[f.pc.toNat] = ⟨10, a, b⟩ := by rw [← hxd]; simp [hil]
  have e := hcode.get hil
  rw [hxi] at e
  obtain ⟨bb, oo, xs, hq2, e1, e2, e3, e4, e5⟩ := e
  subst e2
  have e1' : rdn h bb (oo + f.pc.toNat * 3) 3 = some [.int .i64 10, .int .i64 a, .int .i64 b] := rdn_le' hS.ma.le e1
  have hxT := hmu.2.1.2.2.2.1 _ (List.getElem_mem hil)
  rw [hxi] at hxT
  have hi := (InsT_iff (u := u) (m := mth u f.meth) (a := a) (b := b) (k := 10) rfl).1 hxT
  refine outs Tryz.sigOk Tryz.func189 Tryz.F189 Tryz.ok189 rfl ?_
  conv => whnf
  repeat' ((first | refine ld r1 ?_ | refine ld s1 ?_ | refine ld r6 ?_ | refine ob (by omega) ?_ | refine ar_in (by omega) (by omega) ?_ | refine ptr ?_) <;> conv => whnf)
  refine selPf gp ?_
  conv => whnf
  repeat' ((first | refine ld r1 ?_ | refine ld s1 ?_ | refine ld r6 ?_ | refine ptr' hq2 ?_ | refine ldn e1' ?_ | refine ob (by omega) ?_ | refine ar_in (by omega) (by omega) ?_ | refine ptr ?_) <;> conv => whnf)
  refine call_o (take_c h0 h bs bm bf off u _ fs f M B ⟨10, a, b⟩ hS (InsT.ok hu hxT) (by have := hF.stk; omega)) ?_ ?_
  rotate_left
  · rintro c h' ⟨k1, k2, k3⟩
    refine ⟨0, ?_, k2, k3⟩
    unfold doS
    simp only [if_neg gp, hxd, k1]
  rintro vt h1 ⟨took, rest, htk, B1, Bt, hS1, ev1, ot, hbt⟩
  obtain ⟨ws, hws, htl, hok, hst⟩ := takeS_spec htk
  have hrest : rest.length ≤ 4 := by have := hF.stk; rw [hst] at this; simp at this; omega
  have htv : ∀ v ∈ took, v.ref = true → 0 ≤ v.n ∧ v.n ≤ M.objs.length := fun v hv => hF.vs v (by rw [hst]; simp [hv])
  have hw0 : ws = [2] := by simpa [seesL] using hws.symm
  rw [hw0] at htl hok
  obtain ⟨v0, rfl⟩ := one_of' htl
  obtain ⟨pt, ct, rfl, _⟩ := ot.form
  obtain ⟨t1, q1, rr1, v11, v21, w1, hbf1, hq1, w2, _⟩ := hS1.pcT
  have w2 : rd h1 bf (off + 1) = some (.int .i64 f.pc) := w2
  have hbt' : ∀ b ∈ Bt, b ∉ bm :: B1 ∧ b ≠ bs := fun b hb => ⟨(hbt b hb).1, (hbt b hb).2.1⟩
  have hdo := doS_mid (fs := fs) (M := M) gp hxd htk (by simp)
  have hl9 : (List.map vl2 [v0]).length = 1 := rfl
  have hne9 : 0 < List.length [v0] := by simp
  have e9 := ot.all hne9
  obtain ⟨b0, hq9, _, hall⟩ := e9
  have n0 := (hall 0 (by simp)).1
  have m0 := (hall 0 (by simp)).2
  simp only [List.getElem_cons_zero, List.getElem_cons_succ] at n0 m0
  conv => whnf
  repeat' ((first | refine ld w1 ?_ | refine ld w2 ?_ | refine ob (by omega) ?_ | refine ar_in (by omega) (by omega) ?_ | refine ptr ?_) <;> conv => whnf)
  repeat' ((first | refine ptr' hq9 ?_ | refine ld m0 ?_ | refine ob (by omega) ?_ | refine ar_in (by omega) (by omega) ?_ | refine ptr ?_) <;> conv => whnf)
  have hmid : midS u ⟨10, a, b⟩ [v0] M.objs { f with stack := rest } M.said = .ok (M.objs, { f with stack := rest }, M.said, decide (v0.n = 0)) := rfl
  refine selP (fun g => ?_) (fun g => ?_)
  all_goals conv => whnf
  · rw [decide_eq_true g] at hmid
    first | refine hS1.ldF ?_ | skip
    conv => whnf
    refine hS1.stPc (fun h9 B9 hM9 ev9 => ?_)
    conv => whnf
    exact ⟨_, (by rw [hdo, hmid]; rfl), B9, hM9, ev1.trans ev9⟩
  · rw [decide_eq_false g] at hmid
    first | refine hS1.ldF ?_ | skip
    conv => whnf
    refine hS1.stPc (fun h9 B9 hM9 ev9 => ?_)
    conv => whnf
    exact ⟨_, (by rw [hdo, hmid]; rfl), B9, hM9, ev1.trans ev9⟩
theorem do_c11 (h0 h : Heap) (bs bm bf off : Nat) (u : Unt) (fs : List Frm) (f : Frm) (M : Mch) (B : List Nat) (a b : Int) (hS : SpH h0 h bs bm bf off u (mth u f.meth) fs f M B) (hu : UnitT u) (hI : MInv u M) (gp : ¬ ((mth u f.meth).code.length : Int) ≤ f.pc) (hxd : (mth u f.meth).code.getD f.pc.toNat noIns = ⟨11, a, b⟩) :
    CallsH Tryz.prog 189 [.pointer (some ⟨bs, 0, none⟩)] h (EndH h0 h bm B (doS u fs f M)) := by
  have hff : f ∈ M.frames := by rw [hS.frames]; simp
  have hF := hI.frm f hff
  have hmu := hu.2.2.2.1 _ (mth_mem hF.meth)
  have ok := hu.1
  obtain ⟨hpc0, hpc1⟩ := hF.pc
  have hlen12 := hmu.2.1.2.1
  obtain ⟨r1, r2, _, p, cc, q, d, hu1, r9, r10, r9n, p2, c2, r6, hcode⟩ := hS.mp
  obtain ⟨t0, q0, rr0, v10, v20, _, hbf0, hq0, s1, _⟩ := hS.pcT
  have hil : f.pc.toNat < (mth u f.meth).code.length := by omega
  have hxi : (mth u f.meth).code[f.pc.toNat] = ⟨11, a, b⟩ := by rw [← hxd]; simp [hil]
  have e := hcode.get hil
  rw [hxi] at e
  obtain ⟨bb, oo, xs, hq2, e1, e2, e3, e4, e5⟩ := e
  subst e2
  have e1' : rdn h bb (oo + f.pc.toNat * 3) 3 = some [.int .i64 11, .int .i64 a, .int .i64 b] := rdn_le' hS.ma.le e1
  have hxT := hmu.2.1.2.2.2.1 _ (List.getElem_mem hil)
  rw [hxi] at hxT
  have hi := (InsT_iff (u := u) (m := mth u f.meth) (a := a) (b := b) (k := 11) rfl).1 hxT
  refine outs Tryz.sigOk Tryz.func189 Tryz.F189 Tryz.ok189 rfl ?_
  conv => whnf
  repeat' ((first | refine ld r1 ?_ | refine ld s1 ?_ | refine ld r6 ?_ | refine ob (by omega) ?_ | refine ar_in (by omega) (by omega) ?_ | refine ptr ?_) <;> conv => whnf)
  refine selPf gp ?_
  conv => whnf
  repeat' ((first | refine ld r1 ?_ | refine ld s1 ?_ | refine ld r6 ?_ | refine ptr' hq2 ?_ | refine ldn e1' ?_ | refine ob (by omega) ?_ | refine ar_in (by omega) (by omega) ?_ | refine ptr ?_) <;> conv => whnf)
  refine call_o (take_c h0 h bs bm bf off u _ fs f M B ⟨11, a, b⟩ hS (InsT.ok hu hxT) (by have := hF.stk; omega)) ?_ ?_
  rotate_left
  · rintro c h' ⟨k1, k2, k3⟩
    refine ⟨0, ?_, k2, k3⟩
    unfold doS
    simp only [if_neg gp, hxd, k1]
  rintro vt h1 ⟨took, rest, htk, B1, Bt, hS1, ev1, ot, hbt⟩
  obtain ⟨ws, hws, htl, hok, hst⟩ := takeS_spec htk
  have hrest : rest.length ≤ 4 := by have := hF.stk; rw [hst] at this; simp at this; omega
  have htv : ∀ v ∈ took, v.ref = true → 0 ≤ v.n ∧ v.n ≤ M.objs.length := fun v hv => hF.vs v (by rw [hst]; simp [hv])
  obtain ⟨pt, ct, rfl, _⟩ := ot.form
  obtain ⟨t1, q1, rr1, v11, v21, w1, hbf1, hq1, w2, _⟩ := hS1.pcT
  have w2 : rd h1 bf (off + 1) = some (.int .i64 f.pc) := w2
  have hbt' : ∀ b ∈ Bt, b ∉ bm :: B1 ∧ b ≠ bs := fun b hb => ⟨(hbt b hb).1, (hbt b hb).2.1⟩
  have hdo := doS_mid (fs := fs) (M := M) gp hxd htk (by simp)
  conv => whnf
  repeat' ((first | refine ld w1 ?_ | refine ld w2 ?_ | refine ob (by omega) ?_ | refine ar_in (by omega) (by omega) ?_ | refine ptr ?_) <;> conv => whnf)
  first | refine hS1.ldF ?_ | skip
  conv => whnf
  refine hS1.stPc (fun h9 B9 hM9 ev9 => ?_)
  conv => whnf
  exact ⟨_, (by rw [hdo]; rfl), B9, hM9, ev1.trans ev9⟩
theorem do_c12 (h0 h : Heap) (bs bm bf off : Nat) (u : Unt) (fs : List Frm) (f : Frm) (M : Mch) (B : List Nat) (a b : Int) (hS : SpH h0 h bs bm bf off u (mth u f.meth) fs f M B) (hu : UnitT u) (hI : MInv u M) (gp : ¬ ((mth u f.meth).code.length : Int) ≤ f.pc) (hxd : (mth u f.meth).code.getD f.pc.toNat noIns = ⟨12, a, b⟩) :
    CallsH Tryz.prog 189 [.pointer (some ⟨bs, 0, none⟩)] h (EndH h0 h bm B (doS u fs f M)) := by
  have hff : f ∈ M.frames := by rw [hS.frames]; simp
  have hF := hI.frm f hff
  have hmu := hu.2.2.2.1 _ (mth_mem hF.meth)
  have ok := hu.1
  obtain ⟨hpc0, hpc1⟩ := hF.pc
  have hlen12 := hmu.2.1.2.1
  obtain ⟨r1, r2, _, p, cc, q, d, hu1, r9, r10, r9n, p2, c2, r6, hcode⟩ := hS.mp
  obtain ⟨t0, q0, rr0, v10, v20, _, hbf0, hq0, s1, _⟩ := hS.pcT
  have hil : f.pc.toNat < (mth u f.meth).code.length := by omega
  have hxi : (mth u f.meth).code[f.pc.toNat] = ⟨12, a, b⟩ := by rw [← hxd]; simp [hil]
  have e := hcode.get hil
  rw [hxi] at e
  obtain ⟨bb, oo, xs, hq2, e1, e2, e3, e4, e5⟩ := e
  subst e2
  have e1' : rdn h bb (oo + f.pc.toNat * 3) 3 = some [.int .i64 12, .int .i64 a, .int .i64 b] := rdn_le' hS.ma.le e1
  have hxT := hmu.2.1.2.2.2.1 _ (List.getElem_mem hil)
  rw [hxi] at hxT
  have hi := (InsT_iff (u := u) (m := mth u f.meth) (a := a) (b := b) (k := 12) rfl).1 hxT
  refine outs Tryz.sigOk Tryz.func189 Tryz.F189 Tryz.ok189 rfl ?_
  conv => whnf
  repeat' ((first | refine ld r1 ?_ | refine ld s1 ?_ | refine ld r6 ?_ | refine ob (by omega) ?_ | refine ar_in (by omega) (by omega) ?_ | refine ptr ?_) <;> conv => whnf)
  refine selPf gp ?_
  conv => whnf
  repeat' ((first | refine ld r1 ?_ | refine ld s1 ?_ | refine ld r6 ?_ | refine ptr' hq2 ?_ | refine ldn e1' ?_ | refine ob (by omega) ?_ | refine ar_in (by omega) (by omega) ?_ | refine ptr ?_) <;> conv => whnf)
  refine call_o (take_c h0 h bs bm bf off u _ fs f M B ⟨12, a, b⟩ hS (InsT.ok hu hxT) (by have := hF.stk; omega)) ?_ ?_
  rotate_left
  · rintro c h' ⟨k1, k2, k3⟩
    refine ⟨0, ?_, k2, k3⟩
    unfold doS
    simp only [if_neg gp, hxd, k1]
  rintro vt h1 ⟨took, rest, htk, B1, Bt, hS1, ev1, ot, hbt⟩
  obtain ⟨ws, hws, htl, hok, hst⟩ := takeS_spec htk
  have hrest : rest.length ≤ 4 := by have := hF.stk; rw [hst] at this; simp at this; omega
  have htv : ∀ v ∈ took, v.ref = true → 0 ≤ v.n ∧ v.n ≤ M.objs.length := fun v hv => hF.vs v (by rw [hst]; simp [hv])
  have hw0 : ws = [] := by simpa [seesL] using hws.symm
  rw [hw0] at htl hok
  obtain rfl := nil_of htl
  obtain ⟨pt, ct, rfl, _⟩ := ot.form
  obtain ⟨t1, q1, rr1, v11, v21, w1, hbf1, hq1, w2, _⟩ := hS1.pcT
  have w2 : rd h1 bf (off + 1) = some (.int .i64 f.pc) := w2
  have hbt' : ∀ b ∈ Bt, b ∉ bm :: B1 ∧ b ≠ bs := fun b hb => ⟨(hbt b hb).1, (hbt b hb).2.1⟩
  have hdo := doS_mid (fs := fs) (M := M) gp hxd htk (by simp)
  have htt : TookT u ⟨12, a, b⟩ [] M.objs.length := ⟨fun hx => absurd hx (by simp), fun hx => absurd hx (by simp), fun hx => absurd hx (by simp), fun hx => absurd hx (by simp), fun hx => absurd hx (by simp), fun hx => absurd hx (by simp), fun hx => absurd hx (by simp), htv⟩
  have hop := hi
  simp [OperT] at hop
  have hol : M.objs.length ≤ 900 := by have := hI.len; omega
  have hcall := doThings_c h0 h1 bs bm bf off u _ fs _ _ B1 ⟨12, a, b⟩ [] _ Bt hS1 ot hbt' ok (by simp) hol hI.objs htt (by simp; omega) (by simp) (by simp)
  have hmid : midS u ⟨12, a, b⟩ [] M.objs { f with stack := rest } M.said = (match thingsS u ⟨12, a, b⟩ [] M.objs { f with stack := rest } with | .ok (o, g) => .ok (o, g, M.said, false) | .error e => .error e) := rfl
  rw [hmid] at hdo
  have hok9 : ∀ objs2 f2, thingsS u ⟨12, a, b⟩ [] M.objs { f with stack := rest } = .ok (objs2, f2) → doS u fs f M = .ok { M with objs := objs2, frames := fs ++ [{ f2 with pc := f.pc + 1 }] } := by
    intro objs2 f2 hth
    rw [hdo, hth]; rfl
  have hbad9 : ∀ e, thingsS u ⟨12, a, b⟩ [] M.objs { f with stack := rest } = .error e → doS u fs f M = .error e := by
    intro e hth
    rw [hdo, hth]
  conv => whnf
  repeat' ((first | refine ld w1 ?_ | refine ld w2 ?_ | refine ob (by omega) ?_ | refine ar_in (by omega) (by omega) ?_ | refine ptr ?_) <;> conv => whnf)
  refine call_o hcall ?_ ?_
  · rintro vv h2 ⟨objs2, f2, hth, B2, hS2, ev2⟩
    have hres := hok9 objs2 f2 hth
    conv => whnf
    first | refine hS2.ldF ?_ | skip
    conv => whnf
    refine hS2.stPc (fun h9 B9 hM9 ev9 => ?_)
    conv => whnf
    exact ⟨_, hres, B9, hM9, ev1.trans (ev2.trans ev9)⟩
  · rintro c h2 ⟨k, k1, k2, k3⟩
    exact ⟨k, hbad9 k k1, k2, k3⟩
end Go.Proofs
namespace Go.Proofs
open Go.Vc
set_option maxRecDepth 100000
set_option maxHeartbeats 4000000
theorem do_c13 (h0 h : Heap) (bs bm bf off : Nat) (u : Unt) (fs : List Frm) (f : Frm) (M : Mch) (B : List Nat) (a b : Int) (hS : SpH h0 h bs bm bf off u (mth u f.meth) fs f M B) (hu : UnitT u) (hI : MInv u M) (gp : ¬ ((mth u f.meth).code.length : Int) ≤ f.pc) (hxd : (mth u f.meth).code.getD f.pc.toNat noIns = ⟨13, a, b⟩) :
    CallsH Tryz.prog 189 [.pointer (some ⟨bs, 0, none⟩)] h (EndH h0 h bm B (doS u fs f M)) := by
  have hff : f ∈ M.frames := by rw [hS.frames]; simp
  have hF := hI.frm f hff
  have hmu := hu.2.2.2.1 _ (mth_mem hF.meth)
  have ok := hu.1
  obtain ⟨hpc0, hpc1⟩ := hF.pc
  have hlen12 := hmu.2.1.2.1
  obtain ⟨r1, r2, _, p, cc, q, d, hu1, r9, r10, r9n, p2, c2, r6, hcode⟩ := hS.mp
  obtain ⟨t0, q0, rr0, v10, v20, _, hbf0, hq0, s1, _⟩ := hS.pcT
  have hil : f.pc.toNat < (mth u f.meth).code.length := by omega
  have hxi : (mth u f.meth).code[f.pc.toNat] = ⟨13, a, b⟩ := by rw [← hxd]; simp [hil]
  have e := hcode.get hil
  rw [hxi] at e
  obtain ⟨bb, oo, xs, hq2, e1, e2, e3, e4, e5⟩ := e
  subst e2
  have e1' : rdn h bb (oo + f.pc.toNat * 3) 3 = some [.int .i64 13, .int .i64 a, .int .i64 b] := rdn_le' hS.ma.le e1
  have hxT := hmu.2.1.2.2.2.1 _ (List.getElem_mem hil)
  rw [hxi] at hxT
  have hi := (InsT_iff (u := u) (m := mth u f.meth) (a := a) (b := b) (k := 13) rfl).1 hxT
  refine outs Tryz.sigOk Tryz.func189 Tryz.F189 Tryz.ok189 rfl ?_
  conv => whnf
  repeat' ((first | refine ld r1 ?_ | refine ld s1 ?_ | refine ld r6 ?_ | refine ob (by omega) ?_ | refine ar_in (by omega) (by omega) ?_ | refine ptr ?_) <;> conv => whnf)
  refine selPf gp ?_
  conv => whnf
  repeat' ((first | refine ld r1 ?_ | refine ld s1 ?_ | refine ld r6 ?_ | refine ptr' hq2 ?_ | refine ldn e1' ?_ | refine ob (by omega) ?_ | refine ar_in (by omega) (by omega) ?_ | refine ptr ?_) <;> conv => whnf)
  refine call_o (take_c h0 h bs bm bf off u _ fs f M B ⟨13, a, b⟩ hS (InsT.ok hu hxT) (by have := hF.stk; omega)) ?_ ?_
  rotate_left
  · rintro c h' ⟨k1, k2, k3⟩
    refine ⟨0, ?_, k2, k3⟩
    unfold doS
    simp only [if_neg gp, hxd, k1]
  rintro vt h1 ⟨took, rest, htk, B1, Bt, hS1, ev1, ot, hbt⟩
  obtain ⟨ws, hws, htl, hok, hst⟩ := takeS_spec htk
  have hrest : rest.length ≤ 4 := by have := hF.stk; rw [hst] at this; simp at this; omega
  have htv : ∀ v ∈ took, v.ref = true → 0 ≤ v.n ∧ v.n ≤ M.objs.length := fun v hv => hF.vs v (by rw [hst]; simp [hv])
  have hw0 : ws = [1] := by simpa [seesL] using hws.symm
  rw [hw0] at htl hok
  obtain ⟨v0, rfl⟩ := one_of' htl
  obtain ⟨pt, ct, rfl, _⟩ := ot.form
  obtain ⟨t1, q1, rr1, v11, v21, w1, hbf1, hq1, w2, _⟩ := hS1.pcT
  have w2 : rd h1 bf (off + 1) = some (.int .i64 f.pc) := w2
  have hbt' : ∀ b ∈ Bt, b ∉ bm :: B1 ∧ b ≠ bs := fun b hb => ⟨(hbt b hb).1, (hbt b hb).2.1⟩
  have hdo := doS_mid (fs := fs) (M := M) gp hxd htk (by simp)
  have htt : TookT u ⟨13, a, b⟩ [v0] M.objs.length := ⟨fun _ => ⟨v0, rfl⟩, fun hx => absurd hx (by simp), fun hx => absurd hx (by simp), fun hx => absurd hx (by simp), fun hx => absurd hx (by simp), fun hx => absurd hx (by simp), fun hx => absurd hx (by simp), htv⟩
  have hop := hi
  simp [OperT] at hop
  have hol : M.objs.length ≤ 900 := by have := hI.len; omega
  have hcall := doThings_c h0 h1 bs bm bf off u _ fs _ _ B1 ⟨13, a, b⟩ [v0] _ Bt hS1 ot hbt' ok (by simp) hol hI.objs htt (by simp) (by simp; omega) (by simp)
  have hmid : midS u ⟨13, a, b⟩ [v0] M.objs { f with stack := rest } M.said = (match thingsS u ⟨13, a, b⟩ [v0] M.objs { f with stack := rest } with | .ok (o, g) => .ok (o, g, M.said, false) | .error e => .error e) := rfl
  rw [hmid] at hdo
  have hok9 : ∀ objs2 f2, thingsS u ⟨13, a, b⟩ [v0] M.objs { f with stack := rest } = .ok (objs2, f2) → doS u fs f M = .ok { M with objs := objs2, frames := fs ++ [{ f2 with pc := f.pc + 1 }] } := by
    intro objs2 f2 hth
    rw [hdo, hth]; rfl
  have hbad9 : ∀ e, thingsS u ⟨13, a, b⟩ [v0] M.objs { f with stack := rest } = .error e → doS u fs f M = .error e := by
    intro e hth
    rw [hdo, hth]
  conv => whnf
  repeat' ((first | refine ld w1 ?_ | refine ld w2 ?_ | refine ob (by omega) ?_ | refine ar_in (by omega) (by omega) ?_ | refine ptr ?_) <;> conv => whnf)
  refine call_o hcall ?_ ?_
  · rintro vv h2 ⟨objs2, f2, hth, B2, hS2, ev2⟩
    have hres := hok9 objs2 f2 hth
    conv => whnf
    first | refine hS2.ldF ?_ | skip
    conv => whnf
    refine hS2.stPc (fun h9 B9 hM9 ev9 => ?_)
    conv => whnf
    exact ⟨_, hres, B9, hM9, ev1.trans (ev2.trans ev9)⟩
  · rintro c h2 ⟨k, k1, k2, k3⟩
    exact ⟨k, hbad9 k k1, k2, k3⟩
theorem do_c14 (h0 h : Heap) (bs bm bf off : Nat) (u : Unt) (fs : List Frm) (f : Frm) (M : Mch) (B : List Nat) (a b : Int) (hS : SpH h0 h bs bm bf off u (mth u f.meth) fs f M B) (hu : UnitT u) (hI : MInv u M) (gp : ¬ ((mth u f.meth).code.length : Int) ≤ f.pc) (hxd : (mth u f.meth).code.getD f.pc.toNat noIns = ⟨14, a, b⟩) :
    CallsH Tryz.prog 189 [.pointer (some ⟨bs, 0, none⟩)] h (EndH h0 h bm B (doS u fs f M)) := by
  have hff : f ∈ M.frames := by rw [hS.frames]; simp
  have hF := hI.frm f hff
  have hmu := hu.2.2.2.1 _ (mth_mem hF.meth)
  have ok := hu.1
  obtain ⟨hpc0, hpc1⟩ := hF.pc
  have hlen12 := hmu.2.1.2.1
  obtain ⟨r1, r2, _, p, cc, q, d, hu1, r9, r10, r9n, p2, c2, r6, hcode⟩ := hS.mp
  obtain ⟨t0, q0, rr0, v10, v20, _, hbf0, hq0, s1, _⟩ := hS.pcT
  have hil : f.pc.toNat < (mth u f.meth).code.length := by omega
  have hxi : (mth u f.meth).code[f.pc.toNat] = ⟨14, a, b⟩ := by rw [← hxd]; simp [hil]
  have e := hcode.get hil
  rw [hxi] at e
  obtain ⟨bb, oo, xs, hq2, e1, e2, e3, e4, e5⟩ := e
  subst e2
  have e1' : rdn h bb (oo + f.pc.toNat * 3) 3 = some [.int .i64 14, .int .i64 a, .int .i64 b] := rdn_le' hS.ma.le e1
  have hxT := hmu.2.1.2.2.2.1 _ (List.getElem_mem hil)
  rw [hxi] at hxT
  have hi := (InsT_iff (u := u) (m := mth u f.meth) (a := a) (b := b) (k := 14) rfl).1 hxT
  refine outs Tryz.sigOk Tryz.func189 Tryz.F189 Tryz.ok189 rfl ?_
  conv => whnf
  repeat' ((first | refine ld r1 ?_ | refine ld s1 ?_ | refine ld r6 ?_ | refine ob (by omega) ?_ | refine ar_in (by omega) (by omega) ?_ | refine ptr ?_) <;> conv => whnf)
  refine selPf gp ?_
  conv => whnf
  repeat' ((first | refine ld r1 ?_ | refine ld s1 ?_ | refine ld r6 ?_ | refine ptr' hq2 ?_ | refine ldn e1' ?_ | refine ob (by omega) ?_ | refine ar_in (by omega) (by omega) ?_ | refine ptr ?_) <;> conv => whnf)
  refine call_o (take_c h0 h bs bm bf off u _ fs f M B ⟨14, a, b⟩ hS (InsT.ok hu hxT) (by have := hF.stk; omega)) ?_ ?_
  rotate_left
  · rintro c h' ⟨k1, k2, k3⟩
    refine ⟨0, ?_, k2, k3⟩
    unfold doS
    simp only [if_neg gp, hxd, k1]
  rintro vt h1 ⟨took, rest, htk, B1, Bt, hS1, ev1, ot, hbt⟩
  obtain ⟨ws, hws, htl, hok, hst⟩ := takeS_spec htk
  have hrest : rest.length ≤ 4 := by have := hF.stk; rw [hst] at this; simp at this; omega
  have htv : ∀ v ∈ took, v.ref = true → 0 ≤ v.n ∧ v.n ≤ M.objs.length := fun v hv => hF.vs v (by rw [hst]; simp [hv])
  have hw0 : ws = [2] := by simpa [seesL] using hws.symm
  rw [hw0] at htl hok
  obtain ⟨v0, rfl⟩ := one_of' htl
  have hr0 : v0.ref = true := by cases hx : v0.ref with
    | true => rfl
    | false => simp [okS, hx] at hok
  obtain ⟨pt, ct, rfl, _⟩ := ot.form
  obtain ⟨t1, q1, rr1, v11, v21, w1, hbf1, hq1, w2, _⟩ := hS1.pcT
  have w2 : rd h1 bf (off + 1) = some (.int .i64 f.pc) := w2
  have hbt' : ∀ b ∈ Bt, b ∉ bm :: B1 ∧ b ≠ bs := fun b hb => ⟨(hbt b hb).1, (hbt b hb).2.1⟩
  have hdo := doS_mid (fs := fs) (M := M) gp hxd htk (by simp)
  have htt : TookT u ⟨14, a, b⟩ [v0] M.objs.length := ⟨fun hx => absurd hx (by simp), fun _ => ⟨v0, rfl, hr0⟩, fun hx => absurd hx (by simp), fun hx => absurd hx (by simp), fun hx => absurd hx (by simp), fun hx => absurd hx (by simp), fun hx => absurd hx (by simp), htv⟩
  have hop := hi
  simp [OperT] at hop
  have hol : M.objs.length ≤ 900 := by have := hI.len; omega
  have hcall := doThings_c h0 h1 bs bm bf off u _ fs _ _ B1 ⟨14, a, b⟩ [v0] _ Bt hS1 ot hbt' ok (by simp) hol hI.objs htt (by simp) (by simp) (by simp)
  have hmid : midS u ⟨14, a, b⟩ [v0] M.objs { f with stack := rest } M.said = (match thingsS u ⟨14, a, b⟩ [v0] M.objs { f with stack := rest } with | .ok (o, g) => .ok (o, g, M.said, false) | .error e => .error e) := rfl
  rw [hmid] at hdo
  have hok9 : ∀ objs2 f2, thingsS u ⟨14, a, b⟩ [v0] M.objs { f with stack := rest } = .ok (objs2, f2) → doS u fs f M = .ok { M with objs := objs2, frames := fs ++ [{ f2 with pc := f.pc + 1 }] } := by
    intro objs2 f2 hth
    rw [hdo, hth]; rfl
  have hbad9 : ∀ e, thingsS u ⟨14, a, b⟩ [v0] M.objs { f with stack := rest } = .error e → doS u fs f M = .error e := by
    intro e hth
    rw [hdo, hth]
  conv => whnf
  repeat' ((first | refine ld w1 ?_ | refine ld w2 ?_ | refine ob (by omega) ?_ | refine ar_in (by omega) (by omega) ?_ | refine ptr ?_) <;> conv => whnf)
  refine call_o hcall ?_ ?_
  · rintro vv h2 ⟨objs2, f2, hth, B2, hS2, ev2⟩
    have hres := hok9 objs2 f2 hth
    conv => whnf
    first | refine hS2.ldF ?_ | skip
    conv => whnf
    refine hS2.stPc (fun h9 B9 hM9 ev9 => ?_)
    conv => whnf
    exact ⟨_, hres, B9, hM9, ev1.trans (ev2.trans ev9)⟩
  · rintro c h2 ⟨k, k1, k2, k3⟩
    exact ⟨k, hbad9 k k1, k2, k3⟩
theorem do_c15 (h0 h : Heap) (bs bm bf off : Nat) (u : Unt) (fs : List Frm) (f : Frm) (M : Mch) (B : List Nat) (a b : Int) (hS : SpH h0 h bs bm bf off u (mth u f.meth) fs f M B) (hu : UnitT u) (hI : MInv u M) (gp : ¬ ((mth u f.meth).code.length : Int) ≤ f.pc) (hxd : (mth u f.meth).code.getD f.pc.toNat noIns = ⟨15, a, b⟩) :
    CallsH Tryz.prog 189 [.pointer (some ⟨bs, 0, none⟩)] h (EndH h0 h bm B (doS u fs f M)) := by
  have hff : f ∈ M.frames := by rw [hS.frames]; simp
  have hF := hI.frm f hff
  have hmu := hu.2.2.2.1 _ (mth_mem hF.meth)
  have ok := hu.1
  obtain ⟨hpc0, hpc1⟩ := hF.pc
  have hlen12 := hmu.2.1.2.1
  obtain ⟨r1, r2, _, p, cc, q, d, hu1, r9, r10, r9n, p2, c2, r6, hcode⟩ := hS.mp
  obtain ⟨t0, q0, rr0, v10, v20, _, hbf0, hq0, s1, _⟩ := hS.pcT
  have hil : f.pc.toNat < (mth u f.meth).code.length := by omega
  have hxi : (mth u f.meth).code[f.pc.toNat] = ⟨15, a, b⟩ := by rw [← hxd]; simp [hil]
  have e := hcode.get hil
  rw [hxi] at e
  obtain ⟨bb, oo, xs, hq2, e1, e2, e3, e4, e5⟩ := e
  subst e2
  have e1' : rdn h bb (oo + f.pc.toNat * 3) 3 = some [.int .i64 15, .int .i64 a, .int .i64 b] := rdn_le' hS.ma.le e1
  have hxT := hmu.2.1.2.2.2.1 _ (List.getElem_mem hil)
  rw [hxi] at hxT
  have hi := (InsT_iff (u := u) (m := mth u f.meth) (a := a) (b := b) (k := 15) rfl).1 hxT
  refine outs Tryz.sigOk Tryz.func189 Tryz.F189 Tryz.ok189 rfl ?_
  conv => whnf
  repeat' ((first | refine ld r1 ?_ | refine ld s1 ?_ | refine ld r6 ?_ | refine ob (by omega) ?_ | refine ar_in (by omega) (by omega) ?_ | refine ptr ?_) <;> conv => whnf)
  refine selPf gp ?_
  conv => whnf
  repeat' ((first | refine ld r1 ?_ | refine ld s1 ?_ | refine ld r6 ?_ | refine ptr' hq2 ?_ | refine ldn e1' ?_ | refine ob (by omega) ?_ | refine ar_in (by omega) (by omega) ?_ | refine ptr ?_) <;> conv => whnf)
  refine call_o (take_c h0 h bs bm bf off u _ fs f M B ⟨15, a, b⟩ hS (InsT.ok hu hxT) (by have := hF.stk; omega)) ?_ ?_
  rotate_left
  · rintro c h' ⟨k1, k2, k3⟩
    refine ⟨0, ?_, k2, k3⟩
    unfold doS
    simp only [if_neg gp, hxd, k1]
  rintro vt h1 ⟨took, rest, htk, B1, Bt, hS1, ev1, ot, hbt⟩
  obtain ⟨ws, hws, htl, hok, hst⟩ := takeS_spec htk
  have hrest : rest.length ≤ 4 := by have := hF.stk; rw [hst] at this; simp at this; omega
  have htv : ∀ v ∈ took, v.ref = true → 0 ≤ v.n ∧ v.n ≤ M.objs.length := fun v hv => hF.vs v (by rw [hst]; simp [hv])
  have hw0 : ws = [2, 1] := by simpa [seesL] using hws.symm
  rw [hw0] at htl hok
  obtain ⟨v0, v1, rfl⟩ := two_of htl
  have hr0 : v0.ref = true := by cases hx : v0.ref with
    | true => rfl
    | false => simp [okS, hx] at hok
  obtain ⟨pt, ct, rfl, _⟩ := ot.form
  obtain ⟨t1, q1, rr1, v11, v21, w1, hbf1, hq1, w2, _⟩ := hS1.pcT
  have w2 : rd h1 bf (off + 1) = some (.int .i64 f.pc) := w2
  have hbt' : ∀ b ∈ Bt, b ∉ bm :: B1 ∧ b ≠ bs := fun b hb => ⟨(hbt b hb).1, (hbt b hb).2.1⟩
  have hdo := doS_mid (fs := fs) (M := M) gp hxd htk (by simp)
  have htt : TookT u ⟨15, a, b⟩ [v0, v1] M.objs.length := ⟨fun hx => absurd hx (by simp), fun hx => absurd hx (by simp), fun _ => ⟨v0, v1, rfl, hr0⟩, fun hx => absurd hx (by simp), fun hx => absurd hx (by simp), fun hx => absurd hx (by simp), fun hx => absurd hx (by simp), htv⟩
  have hop := hi
  simp [OperT] at hop
  have hol : M.objs.length ≤ 900 := by have := hI.len; omega
  have hcall := doThings_c h0 h1 bs bm bf off u _ fs _ _ B1 ⟨15, a, b⟩ [v0, v1] _ Bt hS1 ot hbt' ok (by simp) hol hI.objs htt (by simp) (by simp) (by simp)
  have hmid : midS u ⟨15, a, b⟩ [v0, v1] M.objs { f with stack := rest } M.said = (match thingsS u ⟨15, a, b⟩ [v0, v1] M.objs { f with stack := rest } with | .ok (o, g) => .ok (o, g, M.said, false) | .error e => .error e) := rfl
  rw [hmid] at hdo
  have hok9 : ∀ objs2 f2, thingsS u ⟨15, a, b⟩ [v0, v1] M.objs { f with stack := rest } = .ok (objs2, f2) → doS u fs f M = .ok { M with objs := objs2, frames := fs ++ [{ f2 with pc := f.pc + 1 }] } := by
    intro objs2 f2 hth
    rw [hdo, hth]; rfl
  have hbad9 : ∀ e, thingsS u ⟨15, a, b⟩ [v0, v1] M.objs { f with stack := rest } = .error e → doS u fs f M = .error e := by
    intro e hth
    rw [hdo, hth]
  conv => whnf
  repeat' ((first | refine ld w1 ?_ | refine ld w2 ?_ | refine ob (by omega) ?_ | refine ar_in (by omega) (by omega) ?_ | refine ptr ?_) <;> conv => whnf)
  refine call_o hcall ?_ ?_
  · rintro vv h2 ⟨objs2, f2, hth, B2, hS2, ev2⟩
    have hres := hok9 objs2 f2 hth
    conv => whnf
    first | refine hS2.ldF ?_ | skip
    conv => whnf
    refine hS2.stPc (fun h9 B9 hM9 ev9 => ?_)
    conv => whnf
    exact ⟨_, hres, B9, hM9, ev1.trans (ev2.trans ev9)⟩
  · rintro c h2 ⟨k, k1, k2, k3⟩
    exact ⟨k, hbad9 k k1, k2, k3⟩
theorem do_c16 (h0 h : Heap) (bs bm bf off : Nat) (u : Unt) (fs : List Frm) (f : Frm) (M : Mch) (B : List Nat) (a b : Int) (hS : SpH h0 h bs bm bf off u (mth u f.meth) fs f M B) (hu : UnitT u) (hI : MInv u M) (gp : ¬ ((mth u f.meth).code.length : Int) ≤ f.pc) (hxd : (mth u f.meth).code.getD f.pc.toNat noIns = ⟨16, a, b⟩) :
    CallsH Tryz.prog 189 [.pointer (some ⟨bs, 0, none⟩)] h (EndH h0 h bm B (doS u fs f M)) := by
  have hff : f ∈ M.frames := by rw [hS.frames]; simp
  have hF := hI.frm f hff
  have hmu := hu.2.2.2.1 _ (mth_mem hF.meth)
  have ok := hu.1
  obtain ⟨hpc0, hpc1⟩ := hF.pc
  have hlen12 := hmu.2.1.2.1
  obtain ⟨r1, r2, _, p, cc, q, d, hu1, r9, r10, r9n, p2, c2, r6, hcode⟩ := hS.mp
  obtain ⟨t0, q0, rr0, v10, v20, _, hbf0, hq0, s1, _⟩ := hS.pcT
  have hil : f.pc.toNat < (mth u f.meth).code.length := by omega
  have hxi : (mth u f.meth).code[f.pc.toNat] = ⟨16, a, b⟩ := by rw [← hxd]; simp [hil]
  have e := hcode.get hil
  rw [hxi] at e
  obtain ⟨bb, oo, xs, hq2, e1, e2, e3, e4, e5⟩ := e
  subst e2
  have e1' : rdn h bb (oo + f.pc.toNat * 3) 3 = some [.int .i64 16, .int .i64 a, .int .i64 b] := rdn_le' hS.ma.le e1
  have hxT := hmu.2.1.2.2.2.1 _ (List.getElem_mem hil)
  rw [hxi] at hxT
  have hi := (InsT_iff (u := u) (m := mth u f.meth) (a := a) (b := b) (k := 16) rfl).1 hxT
  refine outs Tryz.sigOk Tryz.func189 Tryz.F189 Tryz.ok189 rfl ?_
  conv => whnf
  repeat' ((first | refine ld r1 ?_ | refine ld s1 ?_ | refine ld r6 ?_ | refine ob (by omega) ?_ | refine ar_in (by omega) (by omega) ?_ | refine ptr ?_) <;> conv => whnf)
  refine selPf gp ?_
  conv => whnf
  repeat' ((first | refine ld r1 ?_ | refine ld s1 ?_ | refine ld r6 ?_ | refine ptr' hq2 ?_ | refine ldn e1' ?_ | refine ob (by omega) ?_ | refine ar_in (by omega) (by omega) ?_ | refine ptr ?_) <;> conv => whnf)
  refine call_o (take_c h0 h bs bm bf off u _ fs f M B ⟨16, a, b⟩ hS (InsT.ok hu hxT) (by have := hF.stk; omega)) ?_ ?_
  rotate_left
  · rintro c h' ⟨k1, k2, k3⟩
    refine ⟨0, ?_, k2, k3⟩
    unfold doS
    simp only [if_neg gp, hxd, k1]
  rintro vt h1 ⟨took, rest, htk, B1, Bt, hS1, ev1, ot, hbt⟩
  obtain ⟨ws, hws, htl, hok, hst⟩ := takeS_spec htk
  have hrest : rest.length ≤ 4 := by have := hF.stk; rw [hst] at this; simp at this; omega
  have htv : ∀ v ∈ took, v.ref = true → 0 ≤ v.n ∧ v.n ≤ M.objs.length := fun v hv => hF.vs v (by rw [hst]; simp [hv])
  have hw0 : ws = [2, 1, 0] := by simpa [seesL] using hws.symm
  rw [hw0] at htl hok
  obtain ⟨v0, v1, v2, rfl⟩ := three_of htl
  have hr0 : v0.ref = true := by cases hx : v0.ref with
    | true => rfl
    | false => simp [okS, hx] at hok
  obtain ⟨pt, ct, rfl, _⟩ := ot.form
  obtain ⟨t1, q1, rr1, v11, v21, w1, hbf1, hq1, w2, _⟩ := hS1.pcT
  have w2 : rd h1 bf (off + 1) = some (.int .i64 f.pc) := w2
  have hbt' : ∀ b ∈ Bt, b ∉ bm :: B1 ∧ b ≠ bs := fun b hb => ⟨(hbt b hb).1, (hbt b hb).2.1⟩
  have hdo := doS_mid (fs := fs) (M := M) gp hxd htk (by simp)
  have htt : TookT u ⟨16, a, b⟩ [v0, v1, v2] M.objs.length := ⟨fun hx => absurd hx (by simp), fun hx => absurd hx (by simp), fun hx => absurd hx (by simp), fun _ => ⟨v0, v1, v2, rfl, hr0⟩, fun hx => absurd hx (by simp), fun hx => absurd hx (by simp), fun hx => absurd hx (by simp), htv⟩
  have hop := hi
  simp [OperT] at hop
  have hol : M.objs.length ≤ 900 := by have := hI.len; omega
  have hcall := doThings_c h0 h1 bs bm bf off u _ fs _ _ B1 ⟨16, a, b⟩ [v0, v1, v2] _ Bt hS1 ot hbt' ok (by simp) hol hI.objs htt (by simp) (by simp) (by simp)
  have hmid : midS u ⟨16, a, b⟩ [v0, v1, v2] M.objs { f with stack := rest } M.said = (match thingsS u ⟨16, a, b⟩ [v0, v1, v2] M.objs { f with stack := rest } with | .ok (o, g) => .ok (o, g, M.said, false) | .error e => .error e) := rfl
  rw [hmid] at hdo
  have hok9 : ∀ objs2 f2, thingsS u ⟨16, a, b⟩ [v0, v1, v2] M.objs { f with stack := rest } = .ok (objs2, f2) → doS u fs f M = .ok { M with objs := objs2, frames := fs ++ [{ f2 with pc := f.pc + 1 }] } := by
    intro objs2 f2 hth
    rw [hdo, hth]; rfl
  have hbad9 : ∀ e, thingsS u ⟨16, a, b⟩ [v0, v1, v2] M.objs { f with stack := rest } = .error e → doS u fs f M = .error e := by
    intro e hth
    rw [hdo, hth]
  conv => whnf
  repeat' ((first | refine ld w1 ?_ | refine ld w2 ?_ | refine ob (by omega) ?_ | refine ar_in (by omega) (by omega) ?_ | refine ptr ?_) <;> conv => whnf)
  refine call_o hcall ?_ ?_
  · rintro vv h2 ⟨objs2, f2, hth, B2, hS2, ev2⟩
    have hres := hok9 objs2 f2 hth
    conv => whnf
    first | refine hS2.ldF ?_ | skip
    conv => whnf
    refine hS2.stPc (fun h9 B9 hM9 ev9 => ?_)
    conv => whnf
    exact ⟨_, hres, B9, hM9, ev1.trans (ev2.trans ev9)⟩
  · rintro c h2 ⟨k, k1, k2, k3⟩
    exact ⟨k, hbad9 k k1, k2, k3⟩
theorem do_c17 (h0 h : Heap) (bs bm bf off : Nat) (u : Unt) (fs : List Frm) (f : Frm) (M : Mch) (B : List Nat) (a b : Int) (hS : SpH h0 h bs bm bf off u (mth u f.meth) fs f M B) (hu : UnitT u) (hI : MInv u M) (gp : ¬ ((mth u f.meth).code.length : Int) ≤ f.pc) (hxd : (mth u f.meth).code.getD f.pc.toNat noIns = ⟨17, a, b⟩) :
    CallsH Tryz.prog 189 [.pointer (some ⟨bs, 0, none⟩)] h (EndH h0 h bm B (doS u fs f M)) := by
  have hff : f ∈ M.frames := by rw [hS.frames]; simp
  have hF := hI.frm f hff
  have hmu := hu.2.2.2.1 _ (mth_mem hF.meth)
  have ok := hu.1
  obtain ⟨hpc0, hpc1⟩ := hF.pc
  have hlen12 := hmu.2.1.2.1
  obtain ⟨r1, r2, _, p, cc, q, d, hu1, r9, r10, r9n, p2, c2, r6, hcode⟩ := hS.mp
  obtain ⟨t0, q0, rr0, v10, v20, _, hbf0, hq0, s1, _⟩ := hS.pcT
  have hil : f.pc.toNat < (mth u f.meth).code.length := by omega
  have hxi : (mth u f.meth).code[f.pc.toNat] = ⟨17, a, b⟩ := by rw [← hxd]; simp [hil]
  have e := hcode.get hil
  rw [hxi] at e
  obtain ⟨bb, oo, xs, hq2, e1, e2, e3, e4, e5⟩ := e
  subst e2
  have e1' : rdn h bb (oo + f.pc.toNat * 3) 3 = some [.int .i64 17, .int .i64 a, .int .i64 b] := rdn_le' hS.ma.le e1
  have hxT := hmu.2.1.2.2.2.1 _ (List.getElem_mem hil)
  rw [hxi] at hxT
  have hi := (InsT_iff (u := u) (m := mth u f.meth) (a := a) (b := b) (k := 17) rfl).1 hxT
  refine outs Tryz.sigOk Tryz.func189 Tryz.F189 Tryz.ok189 rfl ?_
  conv => whnf
  repeat' ((first | refine ld r1 ?_ | refine ld s1 ?_ | refine ld r6 ?_ | refine ob (by omega) ?_ | refine ar_in (by omega) (by omega) ?_ | refine ptr ?_) <;> conv => whnf)
  refine selPf gp ?_
  conv => whnf
  repeat' ((first | refine ld r1 ?_ | refine ld s1 ?_ | refine ld r6 ?_ | refine ptr' hq2 ?_ | refine ldn e1' ?_ | refine ob (by omega) ?_ | refine ar_in (by omega) (by omega) ?_ | refine ptr ?_) <;> conv => whnf)
  refine call_o (take_c h0 h bs bm bf off u _ fs f M B ⟨17, a, b⟩ hS (InsT.ok hu hxT) (by have := hF.stk; omega)) ?_ ?_
  rotate_left
  · rintro c h' ⟨k1, k2, k3⟩
    refine ⟨0, ?_, k2, k3⟩
    unfold doS
    simp only [if_neg gp, hxd, k1]
  rintro vt h1 ⟨took, rest, htk, B1, Bt, hS1, ev1, ot, hbt⟩
  obtain ⟨ws, hws, htl, hok, hst⟩ := takeS_spec htk
  have hrest : rest.length ≤ 4 := by have := hF.stk; rw [hst] at this; simp at this; omega
  have htv : ∀ v ∈ took, v.ref = true → 0 ≤ v.n ∧ v.n ≤ M.objs.length := fun v hv => hF.vs v (by rw [hst]; simp [hv])
  have hw0 : ws = [2] := by simpa [seesL] using hws.symm
  rw [hw0] at htl hok
  obtain ⟨v0, rfl⟩ := one_of' htl
  have hr0 : v0.ref = true := by cases hx : v0.ref with
    | true => rfl
    | false => simp [okS, hx] at hok
  obtain ⟨pt, ct, rfl, _⟩ := ot.form
  obtain ⟨t1, q1, rr1, v11, v21, w1, hbf1, hq1, w2, _⟩ := hS1.pcT
  have w2 : rd h1 bf (off + 1) = some (.int .i64 f.pc) := w2
  have hbt' : ∀ b ∈ Bt, b ∉ bm :: B1 ∧ b ≠ bs := fun b hb => ⟨(hbt b hb).1, (hbt b hb).2.1⟩
  have hdo := doS_mid (fs := fs) (M := M) gp hxd htk (by simp)
  have htt : TookT u ⟨17, a, b⟩ [v0] M.objs.length := ⟨fun hx => absurd hx (by simp), fun hx => absurd hx (by simp), fun hx => absurd hx (by simp), fun hx => absurd hx (by simp), fun _ => ⟨v0, rfl, hr0⟩, fun hx => absurd hx (by simp), fun hx => absurd hx (by simp), htv⟩
  have hop := hi
  simp [OperT] at hop
  have hol : M.objs.length ≤ 900 := by have := hI.len; omega
  have hcall := doThings_c h0 h1 bs bm bf off u _ fs _ _ B1 ⟨17, a, b⟩ [v0] _ Bt hS1 ot hbt' ok (by simp) hol hI.objs htt (by simp; omega) (by simp) (by simp; omega)
  have hmid : midS u ⟨17, a, b⟩ [v0] M.objs { f with stack := rest } M.said = (match thingsS u ⟨17, a, b⟩ [v0] M.objs { f with stack := rest } with | .ok (o, g) => .ok (o, g, M.said, false) | .error e => .error e) := rfl
  rw [hmid] at hdo
  have hok9 : ∀ objs2 f2, thingsS u ⟨17, a, b⟩ [v0] M.objs { f with stack := rest } = .ok (objs2, f2) → doS u fs f M = .ok { M with objs := objs2, frames := fs ++ [{ f2 with pc := f.pc + 1 }] } := by
    intro objs2 f2 hth
    rw [hdo, hth]; rfl
  have hbad9 : ∀ e, thingsS u ⟨17, a, b⟩ [v0] M.objs { f with stack := rest } = .error e → doS u fs f M = .error e := by
    intro e hth
    rw [hdo, hth]
  conv => whnf
  repeat' ((first | refine ld w1 ?_ | refine ld w2 ?_ | refine ob (by omega) ?_ | refine ar_in (by omega) (by omega) ?_ | refine ptr ?_) <;> conv => whnf)
  refine call_o hcall ?_ ?_
  · rintro vv h2 ⟨objs2, f2, hth, B2, hS2, ev2⟩
    have hres := hok9 objs2 f2 hth
    conv => whnf
    first | refine hS2.ldF ?_ | skip
    conv => whnf
    refine hS2.stPc (fun h9 B9 hM9 ev9 => ?_)
    conv => whnf
    exact ⟨_, hres, B9, hM9, ev1.trans (ev2.trans ev9)⟩
  · rintro c h2 ⟨k, k1, k2, k3⟩
    exact ⟨k, hbad9 k k1, k2, k3⟩
theorem do_c18 (h0 h : Heap) (bs bm bf off : Nat) (u : Unt) (fs : List Frm) (f : Frm) (M : Mch) (B : List Nat) (a b : Int) (hS : SpH h0 h bs bm bf off u (mth u f.meth) fs f M B) (hu : UnitT u) (hI : MInv u M) (gp : ¬ ((mth u f.meth).code.length : Int) ≤ f.pc) (hxd : (mth u f.meth).code.getD f.pc.toNat noIns = ⟨18, a, b⟩) :
    CallsH Tryz.prog 189 [.pointer (some ⟨bs, 0, none⟩)] h (EndH h0 h bm B (doS u fs f M)) := by
  have hff : f ∈ M.frames := by rw [hS.frames]; simp
  have hF := hI.frm f hff
  have hmu := hu.2.2.2.1 _ (mth_mem hF.meth)
  have ok := hu.1
  obtain ⟨hpc0, hpc1⟩ := hF.pc
  have hlen12 := hmu.2.1.2.1
  obtain ⟨r1, r2, _, p, cc, q, d, hu1, r9, r10, r9n, p2, c2, r6, hcode⟩ := hS.mp
  obtain ⟨t0, q0, rr0, v10, v20, _, hbf0, hq0, s1, _⟩ := hS.pcT
  have hil : f.pc.toNat < (mth u f.meth).code.length := by omega
  have hxi : (mth u f.meth).code[f.pc.toNat] = ⟨18, a, b⟩ := by rw [← hxd]; simp [hil]
  have e := hcode.get hil
  rw [hxi] at e
  obtain ⟨bb, oo, xs, hq2, e1, e2, e3, e4, e5⟩ := e
  subst e2
  have e1' : rdn h bb (oo + f.pc.toNat * 3) 3 = some [.int .i64 18, .int .i64 a, .int .i64 b] := rdn_le' hS.ma.le e1
  have hxT := hmu.2.1.2.2.2.1 _ (List.getElem_mem hil)
  rw [hxi] at hxT
  have hi := (InsT_iff (u := u) (m := mth u f.meth) (a := a) (b := b) (k := 18) rfl).1 hxT
  refine outs Tryz.sigOk Tryz.func189 Tryz.F189 Tryz.ok189 rfl ?_
  conv => whnf
  repeat' ((first | refine ld r1 ?_ | refine ld s1 ?_ | refine ld r6 ?_ | refine ob (by omega) ?_ | refine ar_in (by omega) (by omega) ?_ | refine ptr ?_) <;> conv => whnf)
  refine selPf gp ?_
  conv => whnf
  repeat' ((first | refine ld r1 ?_ | refine ld s1 ?_ | refine ld r6 ?_ | refine ptr' hq2 ?_ | refine ldn e1' ?_ | refine ob (by omega) ?_ | refine ar_in (by omega) (by omega) ?_ | refine ptr ?_) <;> conv => whnf)
  refine call_o (take_c h0 h bs bm bf off u _ fs f M B ⟨18, a, b⟩ hS (InsT.ok hu hxT) (by have := hF.stk; omega)) ?_ ?_
  rotate_left
  · rintro c h' ⟨k1, k2, k3⟩
    refine ⟨0, ?_, k2, k3⟩
    unfold doS
    simp only [if_neg gp, hxd, k1]
  rintro vt h1 ⟨took, rest, htk, B1, Bt, hS1, ev1, ot, hbt⟩
  obtain ⟨ws, hws, htl, hok, hst⟩ := takeS_spec htk
  have hrest : rest.length ≤ 4 := by have := hF.stk; rw [hst] at this; simp at this; omega
  have htv : ∀ v ∈ took, v.ref = true → 0 ≤ v.n ∧ v.n ≤ M.objs.length := fun v hv => hF.vs v (by rw [hst]; simp [hv])
  have hw0 : ws = [2, 0] := by simpa [seesL] using hws.symm
  rw [hw0] at htl hok
  obtain ⟨v0, v1, rfl⟩ := two_of htl
  have hr0 : v0.ref = true := by cases hx : v0.ref with
    | true => rfl
    | false => simp [okS, hx] at hok
  obtain ⟨pt, ct, rfl, _⟩ := ot.form
  obtain ⟨t1, q1, rr1, v11, v21, w1, hbf1, hq1, w2, _⟩ := hS1.pcT
  have w2 : rd h1 bf (off + 1) = some (.int .i64 f.pc) := w2
  have hbt' : ∀ b ∈ Bt, b ∉ bm :: B1 ∧ b ≠ bs := fun b hb => ⟨(hbt b hb).1, (hbt b hb).2.1⟩
  have hdo := doS_mid (fs := fs) (M := M) gp hxd htk (by simp)
  have htt : TookT u ⟨18, a, b⟩ [v0, v1] M.objs.length := ⟨fun hx => absurd hx (by simp), fun hx => absurd hx (by simp), fun hx => absurd hx (by simp), fun hx => absurd hx (by simp), fun hx => absurd hx (by simp), fun _ => ⟨v0, v1, rfl, hr0⟩, fun hx => absurd hx (by simp), htv⟩
  have hop := hi
  simp [OperT] at hop
  have hol : M.objs.length ≤ 900 := by have := hI.len; omega
  have hcall := doThings_c h0 h1 bs bm bf off u _ fs _ _ B1 ⟨18, a, b⟩ [v0, v1] _ Bt hS1 ot hbt' ok (by simp) hol hI.objs htt (by simp; omega) (by simp) (by simp; omega)
  have hmid : midS u ⟨18, a, b⟩ [v0, v1] M.objs { f with stack := rest } M.said = (match thingsS u ⟨18, a, b⟩ [v0, v1] M.objs { f with stack := rest } with | .ok (o, g) => .ok (o, g, M.said, false) | .error e => .error e) := rfl
  rw [hmid] at hdo
  have hok9 : ∀ objs2 f2, thingsS u ⟨18, a, b⟩ [v0, v1] M.objs { f with stack := rest } = .ok (objs2, f2) → doS u fs f M = .ok { M with objs := objs2, frames := fs ++ [{ f2 with pc := f.pc + 1 }] } := by
    intro objs2 f2 hth
    rw [hdo, hth]; rfl
  have hbad9 : ∀ e, thingsS u ⟨18, a, b⟩ [v0, v1] M.objs { f with stack := rest } = .error e → doS u fs f M = .error e := by
    intro e hth
    rw [hdo, hth]
  conv => whnf
  repeat' ((first | refine ld w1 ?_ | refine ld w2 ?_ | refine ob (by omega) ?_ | refine ar_in (by omega) (by omega) ?_ | refine ptr ?_) <;> conv => whnf)
  refine call_o hcall ?_ ?_
  · rintro vv h2 ⟨objs2, f2, hth, B2, hS2, ev2⟩
    have hres := hok9 objs2 f2 hth
    conv => whnf
    first | refine hS2.ldF ?_ | skip
    conv => whnf
    refine hS2.stPc (fun h9 B9 hM9 ev9 => ?_)
    conv => whnf
    exact ⟨_, hres, B9, hM9, ev1.trans (ev2.trans ev9)⟩
  · rintro c h2 ⟨k, k1, k2, k3⟩
    exact ⟨k, hbad9 k k1, k2, k3⟩
theorem do_c19 (h0 h : Heap) (bs bm bf off : Nat) (u : Unt) (fs : List Frm) (f : Frm) (M : Mch) (B : List Nat) (a b : Int) (hS : SpH h0 h bs bm bf off u (mth u f.meth) fs f M B) (hu : UnitT u) (hI : MInv u M) (gp : ¬ ((mth u f.meth).code.length : Int) ≤ f.pc) (hxd : (mth u f.meth).code.getD f.pc.toNat noIns = ⟨19, a, b⟩) :
    CallsH Tryz.prog 189 [.pointer (some ⟨bs, 0, none⟩)] h (EndH h0 h bm B (doS u fs f M)) := by
  have hff : f ∈ M.frames := by rw [hS.frames]; simp
  have hF := hI.frm f hff
  have hmu := hu.2.2.2.1 _ (mth_mem hF.meth)
  have ok := hu.1
  obtain ⟨hpc0, hpc1⟩ := hF.pc
  have hlen12 := hmu.2.1.2.1
  obtain ⟨r1, r2, _, p, cc, q, d, hu1, r9, r10, r9n, p2, c2, r6, hcode⟩ := hS.mp
  obtain ⟨t0, q0, rr0, v10, v20, _, hbf0, hq0, s1, _⟩ := hS.pcT
  have hil : f.pc.toNat < (mth u f.meth).code.length := by omega
  have hxi : (mth u f.meth).code[f.pc.toNat] = ⟨19, a, b⟩ := by rw [← hxd]; simp [hil]
  have e := hcode.get hil
  rw [hxi] at e
  obtain ⟨bb, oo, xs, hq2, e1, e2, e3, e4, e5⟩ := e
  subst e2
  have e1' : rdn h bb (oo + f.pc.toNat * 3) 3 = some [.int .i64 19, .int .i64 a, .int .i64 b] := rdn_le' hS.ma.le e1
  have hxT := hmu.2.1.2.2.2.1 _ (List.getElem_mem hil)
  rw [hxi] at hxT
  have hi := (InsT_iff (u := u) (m := mth u f.meth) (a := a) (b := b) (k := 19) rfl).1 hxT
  refine outs Tryz.sigOk Tryz.func189 Tryz.F189 Tryz.ok189 rfl ?_
  conv => whnf
  repeat' ((first | refine ld r1 ?_ | refine ld s1 ?_ | refine ld r6 ?_ | refine ob (by omega) ?_ | refine ar_in (by omega) (by omega) ?_ | refine ptr ?_) <;> conv => whnf)
  refine selPf gp ?_
  conv => whnf
  repeat' ((first | refine ld r1 ?_ | refine ld s1 ?_ | refine ld r6 ?_ | refine ptr' hq2 ?_ | refine ldn e1' ?_ | refine ob (by omega) ?_ | refine ar_in (by omega) (by omega) ?_ | refine ptr ?_) <;> conv => whnf)
  refine call_o (take_c h0 h bs bm bf off u _ fs f M B ⟨19, a, b⟩ hS (InsT.ok hu hxT) (by have := hF.stk; omega)) ?_ ?_
  rotate_left
  · rintro c h' ⟨k1, k2, k3⟩
    refine ⟨0, ?_, k2, k3⟩
    unfold doS
    simp only [if_neg gp, hxd, k1]
  rintro vt h1 ⟨took, rest, htk, B1, Bt, hS1, ev1, ot, hbt⟩
  obtain ⟨ws, hws, htl, hok, hst⟩ := takeS_spec htk
  have hrest : rest.length ≤ 4 := by have := hF.stk; rw [hst] at this; simp at this; omega
  have htv : ∀ v ∈ took, v.ref = true → 0 ≤ v.n ∧ v.n ≤ M.objs.length := fun v hv => hF.vs v (by rw [hst]; simp [hv])
  have hw0 : ws = [2] := by simpa [seesL] using hws.symm
  rw [hw0] at htl hok
  obtain ⟨v0, rfl⟩ := one_of' htl
  have hr0 : v0.ref = true := by cases hx : v0.ref with
    | true => rfl
    | false => simp [okS, hx] at hok
  obtain ⟨pt, ct, rfl, _⟩ := ot.form
  obtain ⟨t1, q1, rr1, v11, v21, w1, hbf1, hq1, w2, _⟩ := hS1.pcT
  have w2 : rd h1 bf (off + 1) = some (.int .i64 f.pc) := w2
  have hbt' : ∀ b ∈ Bt, b ∉ bm :: B1 ∧ b ≠ bs := fun b hb => ⟨(hbt b hb).1, (hbt b hb).2.1⟩
  have hdo := doS_mid (fs := fs) (M := M) gp hxd htk (by simp)
  have htt : TookT u ⟨19, a, b⟩ [v0] M.objs.length := ⟨fun hx => absurd hx (by simp), fun hx => absurd hx (by simp), fun hx => absurd hx (by simp), fun hx => absurd hx (by simp), fun hx => absurd hx (by simp), fun hx => absurd hx (by simp), fun _ => ⟨v0, rfl, hr0⟩, htv⟩
  have hop := hi
  simp [OperT] at hop
  have hol : M.objs.length ≤ 900 := by have := hI.len; omega
  have hcall := doThings_c h0 h1 bs bm bf off u _ fs _ _ B1 ⟨19, a, b⟩ [v0] _ Bt hS1 ot hbt' ok (by simp) hol hI.objs htt (by simp; omega) (by simp) (by simp)
  have hmid : midS u ⟨19, a, b⟩ [v0] M.objs { f with stack := rest } M.said = (match thingsS u ⟨19, a, b⟩ [v0] M.objs { f with stack := rest } with | .ok (o, g) => .ok (o, g, M.said, false) | .error e => .error e) := rfl
  rw [hmid] at hdo
  have hok9 : ∀ objs2 f2, thingsS u ⟨19, a, b⟩ [v0] M.objs { f with stack := rest } = .ok (objs2, f2) → doS u fs f M = .ok { M with objs := objs2, frames := fs ++ [{ f2 with pc := f.pc + 1 }] } := by
    intro objs2 f2 hth
    rw [hdo, hth]; rfl
  have hbad9 : ∀ e, thingsS u ⟨19, a, b⟩ [v0] M.objs { f with stack := rest } = .error e → doS u fs f M = .error e := by
    intro e hth
    rw [hdo, hth]
  conv => whnf
  repeat' ((first | refine ld w1 ?_ | refine ld w2 ?_ | refine ob (by omega) ?_ | refine ar_in (by omega) (by omega) ?_ | refine ptr ?_) <;> conv => whnf)
  refine call_o hcall ?_ ?_
  · rintro vv h2 ⟨objs2, f2, hth, B2, hS2, ev2⟩
    have hres := hok9 objs2 f2 hth
    conv => whnf
    first | refine hS2.ldF ?_ | skip
    conv => whnf
    refine hS2.stPc (fun h9 B9 hM9 ev9 => ?_)
    conv => whnf
    exact ⟨_, hres, B9, hM9, ev1.trans (ev2.trans ev9)⟩
  · rintro c h2 ⟨k, k1, k2, k3⟩
    exact ⟨k, hbad9 k k1, k2, k3⟩
theorem do_c20 (h0 h : Heap) (bs bm bf off : Nat) (u : Unt) (fs : List Frm) (f : Frm) (M : Mch) (B : List Nat) (a b : Int) (hS : SpH h0 h bs bm bf off u (mth u f.meth) fs f M B) (hu : UnitT u) (hI : MInv u M) (gp : ¬ ((mth u f.meth).code.length : Int) ≤ f.pc) (hxd : (mth u f.meth).code.getD f.pc.toNat noIns = ⟨20, a, b⟩) :
    CallsH Tryz.prog 189 [.pointer (some ⟨bs, 0, none⟩)] h (EndH h0 h bm B (doS u fs f M)) := by
  have hff : f ∈ M.frames := by rw [hS.frames]; simp
  have hF := hI.frm f hff
  have hmu := hu.2.2.2.1 _ (mth_mem hF.meth)
  have ok := hu.1
  obtain ⟨hpc0, hpc1⟩ := hF.pc
  have hlen12 := hmu.2.1.2.1
  obtain ⟨r1, r2, _, p, cc, q, d, hu1, r9, r10, r9n, p2, c2, r6, hcode⟩ := hS.mp
  obtain ⟨t0, q0, rr0, v10, v20, _, hbf0, hq0, s1, _⟩ := hS.pcT
  have hil : f.pc.toNat < (mth u f.meth).code.length := by omega
  have hxi : (mth u f.meth).code[f.pc.toNat] = ⟨20, a, b⟩ := by rw [← hxd]; simp [hil]
  have e := hcode.get hil
  rw [hxi] at e
  obtain ⟨bb, oo, xs, hq2, e1, e2, e3, e4, e5⟩ := e
  subst e2
  have e1' : rdn h bb (oo + f.pc.toNat * 3) 3 = some [.int .i64 20, .int .i64 a, .int .i64 b] := rdn_le' hS.ma.le e1
  have hxT := hmu.2.1.2.2.2.1 _ (List.getElem_mem hil)
  rw [hxi] at hxT
  have hi := (InsT_iff (u := u) (m := mth u f.meth) (a := a) (b := b) (k := 20) rfl).1 hxT
  refine outs Tryz.sigOk Tryz.func189 Tryz.F189 Tryz.ok189 rfl ?_
  conv => whnf
  repeat' ((first | refine ld r1 ?_ | refine ld s1 ?_ | refine ld r6 ?_ | refine ob (by omega) ?_ | refine ar_in (by omega) (by omega) ?_ | refine ptr ?_) <;> conv => whnf)
  refine selPf gp ?_
  conv => whnf
  repeat' ((first | refine ld r1 ?_ | refine ld s1 ?_ | refine ld r6 ?_ | refine ptr' hq2 ?_ | refine ldn e1' ?_ | refine ob (by omega) ?_ | refine ar_in (by omega) (by omega) ?_ | refine ptr ?_) <;> conv => whnf)
  refine call_o (take_c h0 h bs bm bf off u _ fs f M B ⟨20, a, b⟩ hS (InsT.ok hu hxT) (by have := hF.stk; omega)) ?_ ?_
  rotate_left
  · rintro c h' ⟨k1, k2, k3⟩
    refine ⟨0, ?_, k2, k3⟩
    unfold doS
    simp only [if_neg gp, hxd, k1]
  rintro vt h1 ⟨took, rest, htk, B1, Bt, hS1, ev1, ot, hbt⟩
  obtain ⟨ws, hws, htl, hok, hst⟩ := takeS_spec htk
  have hrest : rest.length ≤ 4 := by have := hF.stk; rw [hst] at this; simp at this; omega
  have htv : ∀ v ∈ took, v.ref = true → 0 ≤ v.n ∧ v.n ≤ M.objs.length := fun v hv => hF.vs v (by rw [hst]; simp [hv])
  have hw0 : ws = List.replicate (mth u a).args.length 0 := by simpa [seesL] using hws.symm
  obtain ⟨pt, ct, rfl, _⟩ := ot.form
  obtain ⟨t1, q1, rr1, v11, v21, w1, hbf1, hq1, w2, _⟩ := hS1.pcT
  have w2 : rd h1 bf (off + 1) = some (.int .i64 f.pc) := w2
  have hbt' : ∀ b ∈ Bt, b ∉ bm :: B1 ∧ b ≠ bs := fun b hb => ⟨(hbt b hb).1, (hbt b hb).2.1⟩
  have hcalls := doS_calls (fs := fs) (M := M) gp hxd htk (by simp)
  have hop := hi.1
  simp [OperT] at hop
  have hmm := (hu.2.2.2.1 _ (mth_mem hop.1)).1
  have hloc : (took.length : Int) ≤ (mth u a).locals ∧ (mth u a).locals ≤ 3 := by
    have e1 := hmm.2.2.2.2.1
    have e2 := hmm.2.2.2.2.2
    have e3 : (mth u a).args.length ≤ (givenL (mth u a)).length := by simp [givenL]
    rw [hw0] at htl
    simp at htl
    omega
  have hfr1 := hS.frames
  have hlf1 : (fs ++ [{ f with stack := rest }]).length ≤ 900 := by have := hI.nf; rw [hfr1] at this; simp at this ⊢; omega
  have hfs1 : ∀ (g : Frm), g ∈ fs ++ [{ f with stack := rest }] → (0 ≤ g.meth ∧ g.meth < u.methods.length) ∧ 0 ≤ g.pc ∧ g.pc ≤ 1000 := by
    intro g hg
    rcases List.mem_append.1 hg with hg | hg
    · have hG := hI.frm g (by rw [hfr1]; simp [hg])
      have h12 := (hu.2.2.2.1 _ (mth_mem hG.meth)).2.1.2.1
      have := hG.pc
      exact ⟨hG.meth, this.1, by omega⟩
    · rw [List.mem_singleton.1 hg]; exact ⟨hF.meth, hpc0, by show f.pc ≤ 1000; omega⟩
  have hol : M.objs.length ≤ 900 := by have := hI.len; omega
  have hcall := doCalls_c h0 h1 bs bm bf off u _ fs _ _ B1 ⟨20, a, b⟩ took _ Bt hS1 ot hbt' ok (by simp) hol hlf1 hI.objs htv (fun _ => ⟨hop.1, hloc⟩) (by simp) (by simp) (by simp) (by simp) hfs1
  conv => whnf
  repeat' ((first | refine ld w1 ?_ | refine ld w2 ?_ | refine ob (by omega) ?_ | refine ar_in (by omega) (by omega) ?_ | refine ptr ?_) <;> conv => whnf)
  refine call_o hcall ?_ ?_
  · rintro vv h2 hh
    have hfin := EndH.trans ev1 hh
    rw [← hcalls] at hfin
    conv => whnf
    exact hfin
  · rintro c h2 hh
    have hfin := EndH.trans ev1 hh
    rw [← hcalls] at hfin
    exact hfin
theorem do_c21 (h0 h : Heap) (bs bm bf off : Nat) (u : Unt) (fs : List Frm) (f : Frm) (M : Mch) (B : List Nat) (a b : Int) (hS : SpH h0 h bs bm bf off u (mth u f.meth) fs f M B) (hu : UnitT u) (hI : MInv u M) (gp : ¬ ((mth u f.meth).code.length : Int) ≤ f.pc) (hxd : (mth u f.meth).code.getD f.pc.toNat noIns = ⟨21, a, b⟩)
    (hsend : ∀ (took rest : List Vl) (c : Int), takeS u ⟨21, a, b⟩ f.stack = some (took, rest) → c < u.classes.length → up u.classes c a = true → 0 ≤ find u c b ∧ ((took.length : Int) ≤ (mth u (find u c b)).locals ∧ (mth u (find u c b)).locals ≤ 3)) :
    CallsH Tryz.prog 189 [.pointer (some ⟨bs, 0, none⟩)] h (EndH h0 h bm B (doS u fs f M)) := by
  have hff : f ∈ M.frames := by rw [hS.frames]; simp
  have hF := hI.frm f hff
  have hmu := hu.2.2.2.1 _ (mth_mem hF.meth)
  have ok := hu.1
  obtain ⟨hpc0, hpc1⟩ := hF.pc
  have hlen12 := hmu.2.1.2.1
  obtain ⟨r1, r2, _, p, cc, q, d, hu1, r9, r10, r9n, p2, c2, r6, hcode⟩ := hS.mp
  obtain ⟨t0, q0, rr0, v10, v20, _, hbf0, hq0, s1, _⟩ := hS.pcT
  have hil : f.pc.toNat < (mth u f.meth).code.length := by omega
  have hxi : (mth u f.meth).code[f.pc.toNat] = ⟨21, a, b⟩ := by rw [← hxd]; simp [hil]
  have e := hcode.get hil
  rw [hxi] at e
  obtain ⟨bb, oo, xs, hq2, e1, e2, e3, e4, e5⟩ := e
  subst e2
  have e1' : rdn h bb (oo + f.pc.toNat * 3) 3 = some [.int .i64 21, .int .i64 a, .int .i64 b] := rdn_le' hS.ma.le e1
  have hxT := hmu.2.1.2.2.2.1 _ (List.getElem_mem hil)
  rw [hxi] at hxT
  have hi := (InsT_iff (u := u) (m := mth u f.meth) (a := a) (b := b) (k := 21) rfl).1 hxT
  refine outs Tryz.sigOk Tryz.func189 Tryz.F189 Tryz.ok189 rfl ?_
  conv => whnf
  repeat' ((first | refine ld r1 ?_ | refine ld s1 ?_ | refine ld r6 ?_ | refine ob (by omega) ?_ | refine ar_in (by omega) (by omega) ?_ | refine ptr ?_) <;> conv => whnf)
  refine selPf gp ?_
  conv => whnf
  repeat' ((first | refine ld r1 ?_ | refine ld s1 ?_ | refine ld r6 ?_ | refine ptr' hq2 ?_ | refine ldn e1' ?_ | refine ob (by omega) ?_ | refine ar_in (by omega) (by omega) ?_ | refine ptr ?_) <;> conv => whnf)
  refine call_o (take_c h0 h bs bm bf off u _ fs f M B ⟨21, a, b⟩ hS (InsT.ok hu hxT) (by have := hF.stk; omega)) ?_ ?_
  rotate_left
  · rintro c h' ⟨k1, k2, k3⟩
    refine ⟨0, ?_, k2, k3⟩
    unfold doS
    simp only [if_neg gp, hxd, k1]
  rintro vt h1 ⟨took, rest, htk, B1, Bt, hS1, ev1, ot, hbt⟩
  obtain ⟨ws, hws, htl, hok, hst⟩ := takeS_spec htk
  have hrest : rest.length ≤ 4 := by have := hF.stk; rw [hst] at this; simp at this; omega
  have htv : ∀ v ∈ took, v.ref = true → 0 ≤ v.n ∧ v.n ≤ M.objs.length := fun v hv => hF.vs v (by rw [hst]; simp [hv])
  obtain ⟨pt, ct, rfl, _⟩ := ot.form
  obtain ⟨t1, q1, rr1, v11, v21, w1, hbf1, hq1, w2, _⟩ := hS1.pcT
  have w2 : rd h1 bf (off + 1) = some (.int .i64 f.pc) := w2
  have hbt' : ∀ b ∈ Bt, b ∉ bm :: B1 ∧ b ≠ bs := fun b hb => ⟨(hbt b hb).1, (hbt b hb).2.1⟩
  have hcalls := doS_calls (fs := fs) (M := M) gp hxd htk (by simp)
  have hne3 : ∃ v0 rr, took = v0 :: rr ∧ v0.ref = true := by
    simp [seesL] at hws
    obtain ⟨_, rfl⟩ := hws
    match took, htl, hok with
    | v0 :: rr, _, hok =>
      refine ⟨v0, rr, rfl, ?_⟩
      cases hx : v0.ref with
      | true => rfl
      | false => simp [okS, hx] at hok
  have hfr1 := hS.frames
  have hlf1 : (fs ++ [{ f with stack := rest }]).length ≤ 900 := by have := hI.nf; rw [hfr1] at this; simp at this ⊢; omega
  have hfs1 : ∀ (g : Frm), g ∈ fs ++ [{ f with stack := rest }] → (0 ≤ g.meth ∧ g.meth < u.methods.length) ∧ 0 ≤ g.pc ∧ g.pc ≤ 1000 := by
    intro g hg
    rcases List.mem_append.1 hg with hg | hg
    · have hG := hI.frm g (by rw [hfr1]; simp [hg])
      have h12 := (hu.2.2.2.1 _ (mth_mem hG.meth)).2.1.2.1
      have := hG.pc
      exact ⟨hG.meth, this.1, by omega⟩
    · rw [List.mem_singleton.1 hg]; exact ⟨hF.meth, hpc0, by show f.pc ≤ 1000; omega⟩
  have hol : M.objs.length ≤ 900 := by have := hI.len; omega
  have hcall := doCalls_c h0 h1 bs bm bf off u _ fs _ _ B1 ⟨21, a, b⟩ took _ Bt hS1 ot hbt' ok (by simp) hol hlf1 hI.objs htv (by simp) (fun _ => hne3) (fun _ c hc hu => hsend took rest c htk hc hu) (by simp) (by simp) hfs1
  conv => whnf
  repeat' ((first | refine ld w1 ?_ | refine ld w2 ?_ | refine ob (by omega) ?_ | refine ar_in (by omega) (by omega) ?_ | refine ptr ?_) <;> conv => whnf)
  refine call_o hcall ?_ ?_
  · rintro vv h2 hh
    have hfin := EndH.trans ev1 hh
    rw [← hcalls] at hfin
    conv => whnf
    exact hfin
  · rintro c h2 hh
    have hfin := EndH.trans ev1 hh
    rw [← hcalls] at hfin
    exact hfin
theorem do_c22 (h0 h : Heap) (bs bm bf off : Nat) (u : Unt) (fs : List Frm) (f : Frm) (M : Mch) (B : List Nat) (a b : Int) (hS : SpH h0 h bs bm bf off u (mth u f.meth) fs f M B) (hu : UnitT u) (hI : MInv u M) (gp : ¬ ((mth u f.meth).code.length : Int) ≤ f.pc) (hxd : (mth u f.meth).code.getD f.pc.toNat noIns = ⟨22, a, b⟩) :
    CallsH Tryz.prog 189 [.pointer (some ⟨bs, 0, none⟩)] h (EndH h0 h bm B (doS u fs f M)) := by
  have hff : f ∈ M.frames := by rw [hS.frames]; simp
  have hF := hI.frm f hff
  have hmu := hu.2.2.2.1 _ (mth_mem hF.meth)
  have ok := hu.1
  obtain ⟨hpc0, hpc1⟩ := hF.pc
  have hlen12 := hmu.2.1.2.1
  obtain ⟨r1, r2, _, p, cc, q, d, hu1, r9, r10, r9n, p2, c2, r6, hcode⟩ := hS.mp
  obtain ⟨t0, q0, rr0, v10, v20, _, hbf0, hq0, s1, _⟩ := hS.pcT
  have hil : f.pc.toNat < (mth u f.meth).code.length := by omega
  have hxi : (mth u f.meth).code[f.pc.toNat] = ⟨22, a, b⟩ := by rw [← hxd]; simp [hil]
  have e := hcode.get hil
  rw [hxi] at e
  obtain ⟨bb, oo, xs, hq2, e1, e2, e3, e4, e5⟩ := e
  subst e2
  have e1' : rdn h bb (oo + f.pc.toNat * 3) 3 = some [.int .i64 22, .int .i64 a, .int .i64 b] := rdn_le' hS.ma.le e1
  have hxT := hmu.2.1.2.2.2.1 _ (List.getElem_mem hil)
  rw [hxi] at hxT
  have hi := (InsT_iff (u := u) (m := mth u f.meth) (a := a) (b := b) (k := 22) rfl).1 hxT
  refine outs Tryz.sigOk Tryz.func189 Tryz.F189 Tryz.ok189 rfl ?_
  conv => whnf
  repeat' ((first | refine ld r1 ?_ | refine ld s1 ?_ | refine ld r6 ?_ | refine ob (by omega) ?_ | refine ar_in (by omega) (by omega) ?_ | refine ptr ?_) <;> conv => whnf)
  refine selPf gp ?_
  conv => whnf
  repeat' ((first | refine ld r1 ?_ | refine ld s1 ?_ | refine ld r6 ?_ | refine ptr' hq2 ?_ | refine ldn e1' ?_ | refine ob (by omega) ?_ | refine ar_in (by omega) (by omega) ?_ | refine ptr ?_) <;> conv => whnf)
  refine call_o (take_c h0 h bs bm bf off u _ fs f M B ⟨22, a, b⟩ hS (InsT.ok hu hxT) (by have := hF.stk; omega)) ?_ ?_
  rotate_left
  · rintro c h' ⟨k1, k2, k3⟩
    refine ⟨0, ?_, k2, k3⟩
    unfold doS
    simp only [if_neg gp, hxd, k1]
  rintro vt h1 ⟨took, rest, htk, B1, Bt, hS1, ev1, ot, hbt⟩
  obtain ⟨ws, hws, htl, hok, hst⟩ := takeS_spec htk
  have hrest : rest.length ≤ 4 := by have := hF.stk; rw [hst] at this; simp at this; omega
  have htv : ∀ v ∈ took, v.ref = true → 0 ≤ v.n ∧ v.n ≤ M.objs.length := fun v hv => hF.vs v (by rw [hst]; simp [hv])
  have hw0 : ws = [0] := by simpa [seesL] using hws.symm
  rw [hw0] at htl hok
  obtain ⟨v0, rfl⟩ := one_of' htl
  obtain ⟨pt, ct, rfl, _⟩ := ot.form
  obtain ⟨t1, q1, rr1, v11, v21, w1, hbf1, hq1, w2, _⟩ := hS1.pcT
  have w2 : rd h1 bf (off + 1) = some (.int .i64 f.pc) := w2
  have hbt' : ∀ b ∈ Bt, b ∉ bm :: B1 ∧ b ≠ bs := fun b hb => ⟨(hbt b hb).1, (hbt b hb).2.1⟩
  have hcalls := doS_calls (fs := fs) (M := M) gp hxd htk (by simp)
  have hfr1 := hS.frames
  have hlf1 : (fs ++ [{ f with stack := rest }]).length ≤ 900 := by have := hI.nf; rw [hfr1] at this; simp at this ⊢; omega
  have hfs1 : ∀ (g : Frm), g ∈ fs ++ [{ f with stack := rest }] → (0 ≤ g.meth ∧ g.meth < u.methods.length) ∧ 0 ≤ g.pc ∧ g.pc ≤ 1000 := by
    intro g hg
    rcases List.mem_append.1 hg with hg | hg
    · have hG := hI.frm g (by rw [hfr1]; simp [hg])
      have h12 := (hu.2.2.2.1 _ (mth_mem hG.meth)).2.1.2.1
      have := hG.pc
      exact ⟨hG.meth, this.1, by omega⟩
    · rw [List.mem_singleton.1 hg]; exact ⟨hF.meth, hpc0, by show f.pc ≤ 1000; omega⟩
  have hol : M.objs.length ≤ 900 := by have := hI.len; omega
  have hcall := doCalls_c h0 h1 bs bm bf off u _ fs _ _ B1 ⟨22, a, b⟩ [v0] _ Bt hS1 ot hbt' ok (by simp) hol hlf1 hI.objs htv (by simp) (by simp) (by simp) (fun _ => ⟨v0, rfl⟩) (by simp) hfs1
  conv => whnf
  repeat' ((first | refine ld w1 ?_ | refine ld w2 ?_ | refine ob (by omega) ?_ | refine ar_in (by omega) (by omega) ?_ | refine ptr ?_) <;> conv => whnf)
  refine call_o hcall ?_ ?_
  · rintro vv h2 hh
    have hfin := EndH.trans ev1 hh
    rw [← hcalls] at hfin
    conv => whnf
    exact hfin
  · rintro c h2 hh
    have hfin := EndH.trans ev1 hh
    rw [← hcalls] at hfin
    exact hfin
theorem do_c23 (h0 h : Heap) (bs bm bf off : Nat) (u : Unt) (fs : List Frm) (f : Frm) (M : Mch) (B : List Nat) (a b : Int) (hS : SpH h0 h bs bm bf off u (mth u f.meth) fs f M B) (hu : UnitT u) (hI : MInv u M) (gp : ¬ ((mth u f.meth).code.length : Int) ≤ f.pc) (hxd : (mth u f.meth).code.getD f.pc.toNat noIns = ⟨23, a, b⟩) :
    CallsH Tryz.prog 189 [.pointer (some ⟨bs, 0, none⟩)] h (EndH h0 h bm B (doS u fs f M)) := by
  have hff : f ∈ M.frames := by rw [hS.frames]; simp
  have hF := hI.frm f hff
  have hmu := hu.2.2.2.1 _ (mth_mem hF.meth)
  have ok := hu.1
  obtain ⟨hpc0, hpc1⟩ := hF.pc
  have hlen12 := hmu.2.1.2.1
  obtain ⟨r1, r2, _, p, cc, q, d, hu1, r9, r10, r9n, p2, c2, r6, hcode⟩ := hS.mp
  obtain ⟨t0, q0, rr0, v10, v20, _, hbf0, hq0, s1, _⟩ := hS.pcT
  have hil : f.pc.toNat < (mth u f.meth).code.length := by omega
  have hxi : (mth u f.meth).code[f.pc.toNat] = ⟨23, a, b⟩ := by rw [← hxd]; simp [hil]
  have e := hcode.get hil
  rw [hxi] at e
  obtain ⟨bb, oo, xs, hq2, e1, e2, e3, e4, e5⟩ := e
  subst e2
  have e1' : rdn h bb (oo + f.pc.toNat * 3) 3 = some [.int .i64 23, .int .i64 a, .int .i64 b] := rdn_le' hS.ma.le e1
  have hxT := hmu.2.1.2.2.2.1 _ (List.getElem_mem hil)
  rw [hxi] at hxT
  have hi := (InsT_iff (u := u) (m := mth u f.meth) (a := a) (b := b) (k := 23) rfl).1 hxT
  refine outs Tryz.sigOk Tryz.func189 Tryz.F189 Tryz.ok189 rfl ?_
  conv => whnf
  repeat' ((first | refine ld r1 ?_ | refine ld s1 ?_ | refine ld r6 ?_ | refine ob (by omega) ?_ | refine ar_in (by omega) (by omega) ?_ | refine ptr ?_) <;> conv => whnf)
  refine selPf gp ?_
  conv => whnf
  repeat' ((first | refine ld r1 ?_ | refine ld s1 ?_ | refine ld r6 ?_ | refine ptr' hq2 ?_ | refine ldn e1' ?_ | refine ob (by omega) ?_ | refine ar_in (by omega) (by omega) ?_ | refine ptr ?_) <;> conv => whnf)
  refine call_o (take_c h0 h bs bm bf off u _ fs f M B ⟨23, a, b⟩ hS (InsT.ok hu hxT) (by have := hF.stk; omega)) ?_ ?_
  rotate_left
  · rintro c h' ⟨k1, k2, k3⟩
    refine ⟨0, ?_, k2, k3⟩
    unfold doS
    simp only [if_neg gp, hxd, k1]
  rintro vt h1 ⟨took, rest, htk, B1, Bt, hS1, ev1, ot, hbt⟩
  obtain ⟨ws, hws, htl, hok, hst⟩ := takeS_spec htk
  have hrest : rest.length ≤ 4 := by have := hF.stk; rw [hst] at this; simp at this; omega
  have htv : ∀ v ∈ took, v.ref = true → 0 ≤ v.n ∧ v.n ≤ M.objs.length := fun v hv => hF.vs v (by rw [hst]; simp [hv])
  have hw0 : ws = [2] := by simpa [seesL] using hws.symm
  rw [hw0] at htl hok
  obtain ⟨v0, rfl⟩ := one_of' htl
  have hr0 : v0.ref = true := by cases hx : v0.ref with
    | true => rfl
    | false => simp [okS, hx] at hok
  obtain ⟨pt, ct, rfl, _⟩ := ot.form
  obtain ⟨t1, q1, rr1, v11, v21, w1, hbf1, hq1, w2, _⟩ := hS1.pcT
  have w2 : rd h1 bf (off + 1) = some (.int .i64 f.pc) := w2
  have hbt' : ∀ b ∈ Bt, b ∉ bm :: B1 ∧ b ≠ bs := fun b hb => ⟨(hbt b hb).1, (hbt b hb).2.1⟩
  have hcalls := doS_calls (fs := fs) (M := M) gp hxd htk (by simp)
  have hfr1 := hS.frames
  have hlf1 : (fs ++ [{ f with stack := rest }]).length ≤ 900 := by have := hI.nf; rw [hfr1] at this; simp at this ⊢; omega
  have hfs1 : ∀ (g : Frm), g ∈ fs ++ [{ f with stack := rest }] → (0 ≤ g.meth ∧ g.meth < u.methods.length) ∧ 0 ≤ g.pc ∧ g.pc ≤ 1000 := by
    intro g hg
    rcases List.mem_append.1 hg with hg | hg
    · have hG := hI.frm g (by rw [hfr1]; simp [hg])
      have h12 := (hu.2.2.2.1 _ (mth_mem hG.meth)).2.1.2.1
      have := hG.pc
      exact ⟨hG.meth, this.1, by omega⟩
    · rw [List.mem_singleton.1 hg]; exact ⟨hF.meth, hpc0, by show f.pc ≤ 1000; omega⟩
  have hol : M.objs.length ≤ 900 := by have := hI.len; omega
  have hcall := doCalls_c h0 h1 bs bm bf off u _ fs _ _ B1 ⟨23, a, b⟩ [v0] _ Bt hS1 ot hbt' ok (by simp) hol hlf1 hI.objs htv (by simp) (by simp) (by simp) (by simp) (fun _ => ⟨v0, rfl, hr0⟩) hfs1
  conv => whnf
  repeat' ((first | refine ld w1 ?_ | refine ld w2 ?_ | refine ob (by omega) ?_ | refine ar_in (by omega) (by omega) ?_ | refine ptr ?_) <;> conv => whnf)
  refine call_o hcall ?_ ?_
  · rintro vv h2 hh
    have hfin := EndH.trans ev1 hh
    rw [← hcalls] at hfin
    conv => whnf
    exact hfin
  · rintro c h2 hh
    have hfin := EndH.trans ev1 hh
    rw [← hcalls] at hfin
    exact hfin
theorem do_c24 (h0 h : Heap) (bs bm bf off : Nat) (u : Unt) (fs : List Frm) (f : Frm) (M : Mch) (B : List Nat) (a b : Int) (hS : SpH h0 h bs bm bf off u (mth u f.meth) fs f M B) (hu : UnitT u) (hI : MInv u M) (gp : ¬ ((mth u f.meth).code.length : Int) ≤ f.pc) (hxd : (mth u f.meth).code.getD f.pc.toNat noIns = ⟨24, a, b⟩) :
    CallsH Tryz.prog 189 [.pointer (some ⟨bs, 0, none⟩)] h (EndH h0 h bm B (doS u fs f M)) := by
  have hff : f ∈ M.frames := by rw [hS.frames]; simp
  have hF := hI.frm f hff
  have hmu := hu.2.2.2.1 _ (mth_mem hF.meth)
  have ok := hu.1
  obtain ⟨hpc0, hpc1⟩ := hF.pc
  have hlen12 := hmu.2.1.2.1
  obtain ⟨r1, r2, _, p, cc, q, d, hu1, r9, r10, r9n, p2, c2, r6, hcode⟩ := hS.mp
  obtain ⟨t0, q0, rr0, v10, v20, _, hbf0, hq0, s1, _⟩ := hS.pcT
  have hil : f.pc.toNat < (mth u f.meth).code.length := by omega
  have hxi : (mth u f.meth).code[f.pc.toNat] = ⟨24, a, b⟩ := by rw [← hxd]; simp [hil]
  have e := hcode.get hil
  rw [hxi] at e
  obtain ⟨bb, oo, xs, hq2, e1, e2, e3, e4, e5⟩ := e
  subst e2
  have e1' : rdn h bb (oo + f.pc.toNat * 3) 3 = some [.int .i64 24, .int .i64 a, .int .i64 b] := rdn_le' hS.ma.le e1
  have hxT := hmu.2.1.2.2.2.1 _ (List.getElem_mem hil)
  rw [hxi] at hxT
  have hi := (InsT_iff (u := u) (m := mth u f.meth) (a := a) (b := b) (k := 24) rfl).1 hxT
  refine outs Tryz.sigOk Tryz.func189 Tryz.F189 Tryz.ok189 rfl ?_
  conv => whnf
  repeat' ((first | refine ld r1 ?_ | refine ld s1 ?_ | refine ld r6 ?_ | refine ob (by omega) ?_ | refine ar_in (by omega) (by omega) ?_ | refine ptr ?_) <;> conv => whnf)
  refine selPf gp ?_
  conv => whnf
  repeat' ((first | refine ld r1 ?_ | refine ld s1 ?_ | refine ld r6 ?_ | refine ptr' hq2 ?_ | refine ldn e1' ?_ | refine ob (by omega) ?_ | refine ar_in (by omega) (by omega) ?_ | refine ptr ?_) <;> conv => whnf)
  refine call_o (take_c h0 h bs bm bf off u _ fs f M B ⟨24, a, b⟩ hS (InsT.ok hu hxT) (by have := hF.stk; omega)) ?_ ?_
  rotate_left
  · rintro c h' ⟨k1, k2, k3⟩
    refine ⟨0, ?_, k2, k3⟩
    unfold doS
    simp only [if_neg gp, hxd, k1]
  rintro vt h1 ⟨took, rest, htk, B1, Bt, hS1, ev1, ot, hbt⟩
  obtain ⟨ws, hws, htl, hok, hst⟩ := takeS_spec htk
  have hrest : rest.length ≤ 4 := by have := hF.stk; rw [hst] at this; simp at this; omega
  have htv : ∀ v ∈ took, v.ref = true → 0 ≤ v.n ∧ v.n ≤ M.objs.length := fun v hv => hF.vs v (by rw [hst]; simp [hv])
  have hw0 : ws = [1] := by simpa [seesL] using hws.symm
  rw [hw0] at htl hok
  obtain ⟨v0, rfl⟩ := one_of' htl
  obtain ⟨pt, ct, rfl, _⟩ := ot.form
  obtain ⟨t1, q1, rr1, v11, v21, w1, hbf1, hq1, w2, _⟩ := hS1.pcT
  have w2 : rd h1 bf (off + 1) = some (.int .i64 f.pc) := w2
  have hbt' : ∀ b ∈ Bt, b ∉ bm :: B1 ∧ b ≠ bs := fun b hb => ⟨(hbt b hb).1, (hbt b hb).2.1⟩
  have hdo := doS_mid (fs := fs) (M := M) gp hxd htk (by simp)
  have hl9 : (List.map vl2 [v0]).length = 1 := rfl
  have hne9 : 0 < List.length [v0] := by simp
  have e9 := ot.all hne9
  obtain ⟨b0, hq9, _, hall⟩ := e9
  have n0 := (hall 0 (by simp)).1
  have m0 := (hall 0 (by simp)).2
  simp only [List.getElem_cons_zero, List.getElem_cons_succ] at n0 m0
  have hmp := hS1.mp.2.1
  obtain ⟨tb, ps, cs, vo, vf, hbm, grow⟩ := hS1.ma.growS (by have := hI.said; show M.said.length ≤ 1000; omega)
  have hps : rd h1 bm 2 = some (.slice ps M.said.length cs) := rd_mid hbm (i := 2) rfl rfl
  have hbs2 : h1 bs ≠ none := by
    intro hx
    unfold rd at w1; rw [hx] at w1; cases w1
  have hout := hS1.out
  conv => whnf
  repeat' ((first | refine ld w1 ?_ | refine ld w2 ?_ | refine ob (by omega) ?_ | refine ar_in (by omega) (by omega) ?_ | refine ptr ?_) <;> conv => whnf)
  repeat' ((first | exact trivial | refine ld hmp ?_ | refine ld hps ?_ | refine And.intro ?_ ?_ | refine ptr' hq9 ?_ | refine ld m0 ?_ | refine ob (by omega) ?_) <;> conv => whnf)
  all_goals
    refine grow v0.n [] _ _ ⟨rfl, rfl⟩ (fun _ => by simp) (by simp) rfl rfl rfl rfl (by simp) ?_
    rintro p' c' h2 e1 e2 e3 ⟨B2, hM3, ev3⟩
    have hmp2 : rd h2 bs 11 = some (.pointer (some ⟨bm, 0, none⟩)) := by
      unfold rd at hmp ⊢
      rw [e2 bs (fun hx => hout (by simp [hx])) (by simp) hbs2]; exact hmp
    have hb3 := e1.trans hbm
    conv => whnf
    (try refine ld hmp2 ?_)
    conv => whnf
    refine st1h hb3 (i := 2) (mcells vo vf (.slice p' (M.said.length + 1) c') { M with frames := fs ++ [{ f with stack := rest }] }) rfl (by simp [mcells]) rfl (fun h3 hh3 hg3 => ?_)
    have hbs3 : bs ≠ bm := fun hx => hout (by simp [hx])
    have hM3' : MaH h0 h3 bm [] [] { M with frames := fs ++ [{ f with stack := rest }], said := M.said ++ [v0.n] } B2 := by rw [hh3]; exact hM3
    have hS3 := hS1.move (h' := h3) hM3' rfl (by rw [hh3]; simp only [Heap.set, hbs3, if_false]; exact e2 bs (fun hx => hout (by simp [hx])) (by simp) hbs2)
      (by have z1 : rd h3 bm 1 = some vf := rd_mid hg3 (i := 1) rfl rfl
          have z2 : rd h1 bm 1 = some vf := rd_mid hbm (i := 1) rfl rfl
          rw [z1, z2])
      (fun hx => by
        rcases ev3.new bs hx with hy | hy
        · exact hout (by simpa using hy)
        · exact hbs2 hy)
    have ev4 : Ev h1 h3 (bm :: B1) (bm :: B2) := by rw [hh3]; simpa using ev3
    conv => whnf
    first | refine hS3.ldF ?_ | skip
    conv => whnf
    refine hS3.stPc (fun h9 B9 hM9 ev9 => ?_)
    conv => whnf
    exact ⟨_, (by rw [hdo]; rfl), B9, hM9, ev1.trans (ev4.trans ev9)⟩
end Go.Proofs
namespace Go.Proofs
open Go.Vc
set_option maxRecDepth 100000
set_option maxHeartbeats 4000000
def SendOk (u : Unt) (f : Frm) : Prop := ∀ (x : Ins) (took rest : List Vl) (c : Int), x ∈ (mth u f.meth).code → x.kind = 21 → takeS u x f.stack = some (took, rest) → c < u.classes.length → up u.classes c x.a = true → 0 ≤ find u c x.b ∧ ((took.length : Int) ≤ (mth u (find u c x.b)).locals ∧ (mth u (find u c x.b)).locals ≤ 3)
theorem do_c (h0 h : Heap) (bs bm bf off : Nat) (u : Unt) (fs : List Frm) (f : Frm) (M : Mch) (B : List Nat) (hS : SpH h0 h bs bm bf off u (mth u f.meth) fs f M B) (hu : UnitT u) (hI : MInv u M) (hsend : SendOk u f) :
    CallsH Tryz.prog 189 [.pointer (some ⟨bs, 0, none⟩)] h (EndH h0 h bm B (doS u fs f M)) := by
  by_cases gp : ((mth u f.meth).code.length : Int) ≤ f.pc
  · obtain ⟨r1, r2, _, p, cc, q, d, hu1, r9, r10, r9n, p2, c2, r6, hcode⟩ := hS.mp
    obtain ⟨t0, q0, rr0, v10, v20, _, hbf0, hq0, s1, _⟩ := hS.pcT
    refine outs Tryz.sigOk Tryz.func189 Tryz.F189 Tryz.ok189 rfl ?_
    conv => whnf
    repeat' ((first | refine ld r1 ?_ | refine ld s1 ?_ | refine ld r6 ?_ | refine ob (by omega) ?_ | refine ar_in (by omega) (by omega) ?_ | refine ptr ?_) <;> conv => whnf)
    refine selPt gp ?_
    conv => whnf
    exact ⟨0, by unfold doS; rw [if_pos gp], rfl, hS.ma.pn⟩
  have hff : f ∈ M.frames := by rw [hS.frames]; simp
  have hF := hI.frm f hff
  have hmu := hu.2.2.2.1 _ (mth_mem hF.meth)
  obtain ⟨hpc0, hpc1⟩ := hF.pc
  have hil : f.pc.toNat < (mth u f.meth).code.length := by omega
  have hxm : (mth u f.meth).code[f.pc.toNat] ∈ (mth u f.meth).code := List.getElem_mem _
  have hxT := hmu.2.1.2.2.2.1 _ hxm
  have hxd : (mth u f.meth).code.getD f.pc.toNat noIns = (mth u f.meth).code[f.pc.toNat] := by simp [hil]
  generalize (mth u f.meth).code[f.pc.toNat] = x at hxm hxT hxd
  obtain ⟨kind, a, b⟩ := x
  cases hw : wantK kind with
  | none => exact absurd hxT (by rintro ⟨_, _, hx, _⟩; rw [hw] at hx; cases hx)
  | some w =>
  obtain ⟨wa, wb⟩ := w
  have hmem := wantK_mem hw
  simp only [wantL, wantV, List.mem_cons, List.not_mem_nil, or_false, Prod.mk.injEq] at hmem
  rcases hmem with ⟨rfl, _⟩ | ⟨rfl, _⟩ | ⟨rfl, _⟩ | ⟨rfl, _⟩ | ⟨rfl, _⟩ | ⟨rfl, _⟩ | ⟨rfl, _⟩ | ⟨rfl, _⟩ | ⟨rfl, _⟩ | ⟨rfl, _⟩ | ⟨rfl, _⟩ | ⟨rfl, _⟩ | ⟨rfl, _⟩ | ⟨rfl, _⟩ | ⟨rfl, _⟩ | ⟨rfl, _⟩ | ⟨rfl, _⟩ | ⟨rfl, _⟩ | ⟨rfl, _⟩ | ⟨rfl, _⟩ | ⟨rfl, _⟩ | ⟨rfl, _⟩ | ⟨rfl, _⟩ | ⟨rfl, _⟩
  · exact do_c1 h0 h bs bm bf off u fs f M B a b hS hu hI gp hxd
  · exact do_c2 h0 h bs bm bf off u fs f M B a b hS hu hI gp hxd
  · exact do_c3 h0 h bs bm bf off u fs f M B a b hS hu hI gp hxd
  · exact do_c4 h0 h bs bm bf off u fs f M B a b hS hu hI gp hxd
  · exact do_c5 h0 h bs bm bf off u fs f M B a b hS hu hI gp hxd
  · exact do_c6 h0 h bs bm bf off u fs f M B a b hS hu hI gp hxd
  · exact do_c7 h0 h bs bm bf off u fs f M B a b hS hu hI gp hxd
  · exact do_c8 h0 h bs bm bf off u fs f M B a b hS hu hI gp hxd
  · exact do_c9 h0 h bs bm bf off u fs f M B a b hS hu hI gp hxd
  · exact do_c10 h0 h bs bm bf off u fs f M B a b hS hu hI gp hxd
  · exact do_c11 h0 h bs bm bf off u fs f M B a b hS hu hI gp hxd
  · exact do_c12 h0 h bs bm bf off u fs f M B a b hS hu hI gp hxd
  · exact do_c13 h0 h bs bm bf off u fs f M B a b hS hu hI gp hxd
  · exact do_c14 h0 h bs bm bf off u fs f M B a b hS hu hI gp hxd
  · exact do_c15 h0 h bs bm bf off u fs f M B a b hS hu hI gp hxd
  · exact do_c16 h0 h bs bm bf off u fs f M B a b hS hu hI gp hxd
  · exact do_c17 h0 h bs bm bf off u fs f M B a b hS hu hI gp hxd
  · exact do_c18 h0 h bs bm bf off u fs f M B a b hS hu hI gp hxd
  · exact do_c19 h0 h bs bm bf off u fs f M B a b hS hu hI gp hxd
  · exact do_c20 h0 h bs bm bf off u fs f M B a b hS hu hI gp hxd
  · exact do_c21 h0 h bs bm bf off u fs f M B a b hS hu hI gp hxd (fun took rest c h1 h2 h3 => hsend ⟨21, a, b⟩ took rest c hxm rfl h1 h2 h3)
  · exact do_c22 h0 h bs bm bf off u fs f M B a b hS hu hI gp hxd
  · exact do_c23 h0 h bs bm bf off u fs f M B a b hS hu hI gp hxd
  · exact do_c24 h0 h bs bm bf off u fs f M B a b hS hu hI gp hxd
end Go.Proofs
namespace Go.Proofs
open Go.Vc
set_option maxRecDepth 100000
set_option maxHeartbeats 4000000
def faultOb (i : Int) : Ob := ⟨1, [⟨false, i⟩]⟩
def faultsN (n : Nat) : List Ob := (List.range n).map fun (i : Nat) => faultOb ((i : Int) + 1)
def newM (u : Unt) : Mch := ⟨faultsN 7, [⟨0, 0, List.replicate (mth u 0).locals.toNat noVl, []⟩], [], 0, 0, noVl⟩
theorem faultsN_succ (n : Nat) : faultsN (n + 1) = faultsN n ++ [faultOb ((n : Int) + 1)] := by simp [faultsN, List.range_succ]
theorem faultsN_len (n : Nat) : (faultsN n).length = n := by simp [faultsN]
theorem machNew_c (us : List Value) (u : Unt) (h : Heap) (hu : UntR h us u) (h1 : 1 ≤ u.methods.length) (hl : 0 ≤ (mth u 0).locals ∧ (mth u 0).locals ≤ 3) :
    Rets Tryz.prog 48 [.agg ⟨us⟩] h fun v h' => h.le h' ∧ ∃ mc B, v = .agg ⟨mc⟩ ∧ OwnM h' mc (newM u) B ∧ Nd B ∧ ∀ b ∈ B, h b = none := by
  obtain ⟨p, cc, q, d, rfl, hcs, hms, hl1, hl2⟩ := hu.form
  have hi : 0 < u.methods.length := by omega
  have e := hms.get hi
  obtain ⟨bb, oo, ms, hq2, e1, e2⟩ := e
  have hme : mth u 0 = u.methods[0] := mth_eq hi rfl
  obtain ⟨p1, c1, p2, c2, p3, c3, p4, c4, e3, _⟩ := e2.form
  subst e3
  have r4 : rd h bb (oo + 0 * 8 + 4) = some (.int .i64 (mth u 0).locals) := by rw [hme]; exact rdn_get e1 (i := 4) rfl
  obtain ⟨n, hn⟩ : ∃ n, n = (mth u 0).locals.toNat := ⟨_, rfl⟩
  refine rets Tryz.sigOk Tryz.func48 Tryz.F48 Tryz.ok48 rfl ?_
  conv => whnf
  refine lps [1, 2, 3, 4] [1, 2, 3] (fun s : Nat × Heap × Option Addr × Nat × List Nat => s.1 ≤ 7 ∧ Acc OwnO 2 h s.2.1 (.slice s.2.2.1 s.1 s.2.2.2.1) (faultsN s.1) s.2.2.2.2 []) (fun s => 7 - s.1)
    (fun s => ([.l 1 0, .l 2 0, .l 3 0, .v (.int .i64 ((s.1 : Int) + 1))],
      [some [.slice p u.classes.length cc, .slice q u.methods.length d], some [.slice none 0 0, .slice none 0 0, .slice none 0 0, .int .i64 0, .int .i64 0, .bool false, .int .i64 0], some [.slice s.2.2.1 s.1 s.2.2.2.1, .slice none 0 0, .slice none 0 0, .int .i64 0, .int .i64 0, .bool false, .int .i64 0]], s.2.1))
    (0, h, none, 0, []) ⟨by omega, Acc.start (Heap.le_refl h) (fun _ => Nat.zero_le _) (fun b hb => by cases hb) (fun b hb => by cases hb)⟩ rfl ?_
  rintro ⟨i, h2, pp, cp, B⟩ ⟨hi7, ac⟩
  simp only at hi7 ac ⊢
  conv => whnf
  refine selP (fun g => ?_) (fun g => ?_)
  all_goals conv => whnf
  · refine new' [.bool false, .int .i64 ((i : Int) + 1)] rfl (fun b h3 hb hh l3 hg => ?_)
    conv => whnf
    refine app_acc keptO inO (a := faultOb ((i : Int) + 1)) (Bi := [b]) ac l3 ⟨_, rfl, own_row (vs := [vl2 ⟨false, (i : Int) + 1⟩]) (t := 31) (by simp [vl2]) rfl (by rw [hg]; rfl)⟩ (fun a => by simp only [List.count_cons, List.count_nil]; split <;> omega) (by simpa using hb) rfl rfl rfl rfl (by rw [faultsN_len]; simp; omega) (by rw [faultsN_len]; omega) ?_
    intro p' c' h4 B' ac' hk
    rw [faultsN_len, ← faultsN_succ] at ac'
    rw [faultsN_len]
    conv => whnf
    refine ar_in (by omega) (by omega) ?_
    conv => whnf
    exact lpn (i + 1, h4, p', c', B') ⟨by omega, ac'⟩ (by simp only; omega) rfl
  · have hi6 : i = 7 := by omega
    subst hi6
    have r4' := rd_le ac.le r4
    repeat' ((first | refine ptr' hq2 ?_ | refine ld r4' ?_ | refine ob (by omega) ?_ | refine ar_in (by omega) (by omega) ?_ | refine ptr ?_) <;> conv => whnf)
    refine ob ⟨rfl, by omega, by show (_ : Int) * ((16 : Nat) : Int) ≤ _; omega, by omega⟩ ?_
    conv => whnf
    rw [← hn]
    refine new' ((List.replicate n noVl).map vl2).flatten (by rw [flat_zeros]) (fun b h3 hb hh l3 hg => ?_)
    conv => whnf
    refine new' [.int .i64 0, .int .i64 0, .slice (some ⟨b, 0, none⟩) n n, .slice none 0 0] rfl (fun b2 h4 hb2 hh4 l4 hg2 => ?_)
    have hbb : b ≠ b2 := by rintro rfl; rw [hg] at hb2; cases hb2
    have hB2 : ∀ x ∈ B, x ≠ b ∧ x ≠ b2 := by
      intro x hx
      obtain ⟨o, ho⟩ := ac.own.in inO x hx
      refine ⟨?_, ?_⟩
      · rintro rfl; rw [hb] at ho; cases ho
      · rintro rfl; have := l3 _ _ ho; rw [hb2] at this; cases this
    have hfree : ∀ x, h2 x = none → h x = none := by
      intro x hx
      cases hh : h x with
      | none => rfl
      | some o => rw [ac.le x o hh] at hx; cases hx
    have hb2' : h2 b2 = none := by
      cases hh : h2 b2 with
      | none => rfl
      | some o => rw [l3 _ _ hh] at hb2; cases hb2
    have oloc : OwnV h4 (.slice (some ⟨b, 0, none⟩) n n) (List.replicate n noVl) [b] :=
      (own_row (sz := 2) (vs := (List.replicate n noVl).map vl2) (t := 31) (fun x hx => by obtain ⟨a, _, rfl⟩ := List.mem_map.1 hx; rfl) (by simp) hg).keep (Keep.of_le l4 _)
    have ofr : OwnL OwnF 4 h4 (.slice (some ⟨b2, 0, none⟩) 1 1) [⟨0, 0, List.replicate n noVl, []⟩] [b2, b] :=
      ⟨[[.int .i64 0, .int .i64 0, .slice (some ⟨b, 0, none⟩) n n, .slice none 0 0]], [b2], [b], own_row (t := 50) (by simp) rfl (by rw [hg2]; rfl), Rows.one ⟨_, _, [b], [], rfl, oloc, ⟨by simp, .inl ⟨rfl, rfl, rfl⟩⟩, rfl⟩, rfl⟩
    have oob := ac.own.keep keptO (Keep.of_le (Heap.le_trans l3 l4) _)
    refine ⟨Heap.le_trans ac.le (Heap.le_trans l3 l4), _, B ++ [b2, b] ++ [], rfl, ⟨_, _, _, B, [b2, b], [], rfl, oob, ?_, ⟨by simp [newM], .inl ⟨rfl, rfl, rfl⟩⟩, rfl⟩, ?_, ?_⟩
    · unfold newM; rw [← hn]; exact ofr
    · have := ac.nd
      intro a
      have h9 := this a
      simp only [List.count_append, List.count_cons, List.count_nil] at h9 ⊢
      by_cases ha : b2 = a
      · subst ha
        have : B.count b2 = 0 := List.count_eq_zero.2 fun hx => (hB2 _ hx).2 rfl
        simp [this, hbb]
      · by_cases ha2 : b = a
        · subst ha2
          have : B.count b = 0 := List.count_eq_zero.2 fun hx => (hB2 _ hx).1 rfl
          simp [this, ha]
        · simp [ha, ha2]; omega
    · intro x hx
      have : x ∈ B ∨ x = b2 ∨ x = b := by simp at hx; grind
      rcases this with hx | rfl | rfl
      · exact ac.fr x (by simp [hx])
      · exact hfree _ hb2'
      · exact hfree _ hb
end Go.Proofs
