/- Part 2 of the lemmas on which the law rests: what functions of the program and of the reference do; no conditions but those that each lemma states. -/
import Derived.Orders
import Derived.Below
import Derived.Laws.StructEq
import Derived.Laws.Cover3
import Derived.Defers
import Derived.Recover
import Derived.Test.YtcaoejkpbmiklaaGreatMg1
namespace Go.Vc
set_option linter.constructorNameAsVariable false
set_option linter.unusedVariables false
set_option linter.unusedSimpArgs false
variable {D : List Deferred} {P : Program} {S : Sig} {F : Fs} {o : Oper} {e : Env} {h : Heap} {K : Slot → Bx → Heap → Prop} {E : List PanicEntry → Heap → Prop}
theorem Heap.le_refl (h : Heap) : h.le h := fun _ _ x => x
theorem Heap.le_trans {a b c : Heap} (x : a.le b) (y : b.le c) : a.le c := fun k o hk => y k o (x k o hk)
theorem Heap.le_set {b : Nat} (o : Obj) (hb : h b = none) : h.le (h.set b o) := by
  intro c x hc
  simp only [Heap.set]
  split
  · rename_i hh; subst hh; rw [hb] at hc; cases hc
  · exact hc
theorem cellsAt_fun {ti : TI} {v : Value} {Kc : List Value → Prop} (hx : cellsAt ti v Kc) : ∃ vs, Kc vs ∧ ∀ Kd : List Value → Prop, Kd vs → cellsAt ti v Kd := by
  unfold cellsAt at hx ⊢
  cases hag : ti.agg with
  | true =>
    simp only [hag] at hx
    cases v with
    | agg cs =>
      simp only [forceL_eq] at hx ⊢
      split at hx
      · rename_i hl
        exact ⟨_, hx, fun Kd hk => by (try simp only [hl]); exact hk⟩
      · exact hx.elim
    | _ => exact hx.elim
  | false =>
    simp only [hag] at hx
    simp only
    split at hx
    · exact ⟨_, hx, fun Kd hk => hk⟩
    · exact hx.elim
theorem parts_fun {tyOf : Nat → Option TI} : ∀ (ps : List (Nat × Operand)) (Kp : List (Nat × List Value) → Prop), parts e tyOf ps Kp →
    ∃ qs, Kp qs ∧ ∀ Kd : List (Nat × List Value) → Prop, Kd qs → parts e tyOf ps Kd
  | [], Kp, hx => ⟨[], hx, fun _ hk => hk⟩
  | (i, x) :: ps, Kp, hx => by
    simp only [parts] at hx
    split at hx
    · rename_i v ti hv hti
      obtain ⟨vs, hx, h1⟩ := cellsAt_fun hx
      obtain ⟨qs, hx, h2⟩ := parts_fun ps _ hx
      refine ⟨_, hx, fun Kd hk => ?_⟩
      simp only [parts, hv, hti]
      exact h1 _ (h2 _ hk)
    · exact hx.elim
theorem vals_fun : ∀ (xs : List Operand) (Kc : List Value → Prop), vals e xs Kc → ∃ vs, Kc vs ∧ ∀ Kd : List Value → Prop, Kd vs → vals e xs Kd
  | [], Kc, hx => ⟨[], hx, fun _ hk => hk⟩
  | x :: xs, Kc, hx => by
    simp only [vals] at hx
    split at hx
    · rename_i v hv
      obtain ⟨vs, hx, h1⟩ := vals_fun xs _ hx
      exact ⟨_, hx, fun Kd hk => by simp only [vals, hv]; exact h1 _ hk⟩
    · exact hx.elim
theorem sub_fun {a : Option Addr} {cap l size : Nat} {Kc : Option Addr → Prop} (hx : Sub a cap l size Kc) : ∃ oa, Kc oa ∧ ∀ Kd : Option Addr → Prop, Kd oa → Sub a cap l size Kd := by
  rw [Sub_def] at hx ⊢; unfold Sub_ at hx ⊢
  by_cases hh : cap = l
  · exact ⟨a, hx a (fun hn => absurd hh hn) (fun _ => rfl), fun Kd hk oa _ h2 => by rw [h2 hh]; exact hk⟩
  · exact ⟨_, hx _ (fun _ => rfl) (fun he => absurd he hh), fun Kd hk oa h1 _ => by rw [h1 hh]; exact hk⟩
theorem sliceLo_fun {size : Nat} {a : Option Addr} {cap H : Nat} {lo : Option Slot} {Kc : Value → Prop} (hx : sliceLo size a cap lo H Kc) : ∃ v, Kc v ∧ ∀ Kd : Value → Prop, Kd v → sliceLo size a cap lo H Kd := by
  unfold sliceLo at hx ⊢
  split at hx
  · exact ⟨_, hx, fun _ hk => hk⟩
  · obtain ⟨h1, hx⟩ := ob_iff.1 hx
    obtain ⟨oa, hx, h2⟩ := sub_fun hx
    exact ⟨_, hx, fun Kd hk => ob_iff.2 ⟨h1, h2 _ hk⟩⟩
  · exact hx.elim
theorem sliceOf_fun {size : Nat} {a : Option Addr} {n cap : Nat} {lo hi : Option Slot} {Kc : Value → Prop} (hx : sliceOf size a n cap lo hi Kc) : ∃ v, Kc v ∧ ∀ Kd : Value → Prop, Kd v → sliceOf size a n cap lo hi Kd := by
  unfold sliceOf at hx ⊢
  split at hx
  · exact sliceLo_fun hx
  · obtain ⟨h1, hx⟩ := ob_iff.1 hx
    obtain ⟨v, hx, h2⟩ := sliceLo_fun hx
    exact ⟨v, hx, fun Kd hk => ob_iff.2 ⟨h1, h2 Kd hk⟩⟩
  · exact hx.elim
theorem bld_fun {t : TypeId} {ps : List (Nat × Operand)} {Kc : Value → Prop} (hx : bld S t ps e Kc) : ∃ v, Kc v ∧ ∀ Kd : Value → Prop, Kd v → bld S t ps e Kd := by
  unfold bld at hx ⊢
  split at hx
  · rename_i ti hti
    split at hx
    · exact hx.elim
    · rename_i pl tyOf hpl
      obtain ⟨qs, hx, h1⟩ := parts_fun _ _ hx
      split at hx
      · rename_i cs hcs
        rw [forceL_eq] at hx
        refine ⟨_, hx, fun Kd hk => ?_⟩
        try simp only [hti, hpl]
        refine h1 _ ?_
        simp only [hcs, forceL_eq]
        exact hk
      · exact hx.elim
  · exact hx.elim
theorem binInt_fun {op : BinOp} {k : IntKind} {m n : Int} {Kc : Value → Prop} (hx : binInt op k m n Kc False) : ∃ v, Kc v ∧ ∀ Kd : Value → Prop, Kd v → binInt op k m n Kd False := by
  cases op <;> simp only [binInt] at hx ⊢ <;> first
    | exact hx.elim
    | exact ⟨_, hx, fun _ hk => hk⟩
    | exact ⟨_, ar_iff.1 hx, fun _ hk => ar_iff.2 hk⟩
    | (obtain ⟨h1, hx⟩ := ob_iff.1 hx; exact ⟨_, ar_iff.1 hx, fun _ hk => ob_iff.2 ⟨h1, ar_iff.2 hk⟩⟩)
    | (obtain ⟨h1, hx⟩ := ob_iff.1 hx; exact ⟨_, hx, fun _ hk => ob_iff.2 ⟨h1, hk⟩⟩)
inductive Cls where
  | P | L | R | X | A | W
def cls (F : Fs) (o : Oper) : Cls :=
  match o.op with
  | .alloc _ | .box .. | .buildSlice .. => match inL F.L o.dst with
    | true => .P
    | false => .X
  | .load .. => match inL F.LL o.dst with
    | true => .L
    | false => .R
  | .makeSlice .. => .X
  | .call { callee := .value f, .. } => match mutF F f with
    | true => .A
    | false => .X
  | .call { callee := .builtin .append, .. } => .A
  | op => match isW op with
    | true => .W
    | false => .P
theorem local_of {d : Option Nat} (hh : inL F.L d = true) : ∃ d', isLocal F d = some d' ∧ d = some d' := by
  cases d with
  | none => cases hh
  | some d => simp only [inL] at hh; exact ⟨d, by simp [isLocal, hh], rfl⟩
theorem newVar_fun {t : TypeId} {d : Option Nat} {cs : List Value} (hl : inL F.L d = true) (hx : newVar F t d cs e h K) :
    ∃ s bx, K s bx h ∧ ∀ (h' : Heap) (K' : Slot → Bx → Heap → Prop), K' s bx h' → newVar F t d cs e h' K' := by
  obtain ⟨d', h1, h2⟩ := local_of hl
  unfold newVar at hx ⊢
  simp only [h1] at hx ⊢
  split at hx
  · rename_i hb
    rw [forceL_eq] at hx
    exact ⟨_, _, hx, fun h' K' hk => by simp only [hb, forceL_eq]; exact hk⟩
  · exact hx.elim
theorem newRow_fun {t : TypeId} {d : Option Nat} {n : Nat} {cs : List Value} (hl : inL F.L d = true) (hx : newRow F t d n cs e h K) :
    ∃ s bx, K s bx h ∧ ∀ (h' : Heap) (K' : Slot → Bx → Heap → Prop), K' s bx h' → newRow F t d n cs e h' K' := by
  obtain ⟨d', h1, h2⟩ := local_of hl
  unfold newRow at hx ⊢
  simp only [h1] at hx ⊢
  split at hx
  · rename_i hb
    rw [forceL_eq] at hx
    exact ⟨_, _, hx, fun h' K' hk => by simp only [hb, forceL_eq]; exact hk⟩
  · exact hx.elim
theorem loadL_fun {ti : TI} {u off : Nat} (hx : load ti (.l u off) e h K) : ∃ s, K s none h ∧ ∀ (h' : Heap) (K' : Slot → Bx → Heap → Prop), K' s none h' → load ti (.l u off) e h' K' := by
  unfold load at hx ⊢
  simp only at hx ⊢
  split at hx
  · rename_i vs hvs
    try simp only [hvs]
    split at hx
    · rename_i hag
      rw [forceL_eq] at hx
      exact ⟨_, hx, fun h' K' hk => by first | exact (forceL_eq _ _).2 hk | (simp only [hag, forceL_eq]; exact hk)⟩
    · rename_i hag
      split at hx
      · exact ⟨_, hx, fun h' K' hk => by first | exact hk | (simp only [hag]; exact hk)⟩
      · exact hx.elim
  · exact hx.elim
theorem rdn_le {h' : Heap} (hl : h.le h') {b : Nat} : ∀ (n off : Nat) (vs : List Value), rdn h b off n = some vs → rdn h' b off n = some vs := by
  have hrd : ∀ off v, rd h b off = some v → rd h' b off = some v := by
    intro off v hv
    unfold rd at hv ⊢
    cases hb : h b with
    | none => rw [hb] at hv; cases hv
    | some o => rw [hb] at hv; rw [hl b o hb]; exact hv
  intro n
  induction n with
  | zero => intro off vs hv; exact hv
  | succ n ih =>
    intro off vs hv
    simp only [rdn] at hv ⊢
    split at hv
    · rename_i v r h1 h2
      rw [hrd _ _ h1, ih _ _ h2]
      exact hv
    · cases hv
theorem load_fun {ti : TI} {x : Slot} (hx : load ti x e h K) : ∃ s, K s none h ∧ ∀ (h' : Heap) (K' : Slot → Bx → Heap → Prop), h.le h' → K' s none h' → load ti x e h' K' := by
  cases x with
  | l u off =>
    obtain ⟨s, h1, h2⟩ := loadL_fun hx
    exact ⟨s, h1, fun h' K' _ hk => h2 h' K' hk⟩
  | r u k => exact hx.elim
  | x => exact hx.elim
  | v v =>
    unfold load at hx ⊢
    split at hx
    · rename_i hh; cases hh
    · rename_i b off hh
      cases hh
      split at hx
      · rename_i hag
        rw [LdN_def] at hx; unfold LdN_ at hx
        obtain ⟨vs, hvs, hx⟩ := hx
        refine ⟨_, hx, fun h' K' hl hk => ?_⟩
        try simp only [hag]
        rw [LdN_def]; unfold LdN_
        exact ⟨vs, rdn_le hl _ _ _ hvs, hk⟩
      · rename_i hag
        split at hx
        · rename_i hsz
          rw [Ld_def] at hx; unfold Ld_ at hx
          obtain ⟨v, hv, hx⟩ := hx
          refine ⟨_, hx, fun h' K' hl hk => ?_⟩
          try simp only [hag, hsz]
          rw [Ld_def]; unfold Ld_
          have := rdn_le hl (b := b) 1 off [v] (by simp [rdn, hv])
          simp only [rdn] at this
          split at this
          · rename_i v' r h1 h2
            simp only [Option.some.injEq, List.cons.injEq] at this
            exact ⟨v, by rw [h1, this.1], hk⟩
          · cases this
        · exact hx.elim
    · exact hx.elim
theorem rawP_fun (hx : rawP P o e h true K) : ∃ v, K (.v v) none h ∧ ∀ (h' : Heap) (K' : Slot → Bx → Heap → Prop), K' (.v v) none h' → rawP P o e h' true K' := by
  unfold rawP at hx; rw [RawP_def] at hx; unfold RawP_ at hx
  obtain ⟨hv, v, hK, hr⟩ := hx
  exact ⟨v, hK, fun h' K' hk => by unfold rawP; rw [RawP_def]; unfold RawP_; exact ⟨hv, v, hk, hr⟩⟩
theorem rawP_env {e' : Env} (hg : ∀ y ∈ o.op.operands, e'.get y = e.get y) (hx : rawP P o e h true K) : rawP P o e' h true K := by
  unfold rawP at hx ⊢; rw [RawP_def] at hx ⊢; unfold RawP_ at hx ⊢
  obtain ⟨hv, v, hK, hr⟩ := hx
  exact ⟨fun x hm => by rw [hg x hm]; exact hv x hm, v, hK, fun ρ hρ w => hr ρ (fun x hm => by rw [← hg x hm]; exact hρ x hm) w⟩
theorem exec_fun (hc : cls F o = .P ∨ cls F o = .L) (hx : exec P S F true o e h K E) :
    ∃ s bx, K s bx h ∧ ∀ (h' : Heap) (K' : Slot → Bx → Heap → Prop) (E' : List PanicEntry → Heap → Prop), K' s bx h' → exec P S F true o e h' K' E' := by
  obtain ⟨dst, op, ty, pos, after, guard⟩ := o
  cases op with
  | move y =>
    simp only [exec] at hx ⊢
    cases hy : e.get y <;> simp only [hy] at hx <;> first | exact hx.elim | exact ⟨_, _, hx, fun _ _ _ hk => hk⟩
  | assign y =>
    simp only [exec] at hx ⊢
    cases hy : e.get y <;> simp only [hy] at hx <;> first | exact hx.elim | exact ⟨_, _, hx, fun _ _ _ hk => hk⟩
  | pick c y z =>
    simp only [exec] at hx ⊢
    split at hx
    · rename_i t ht
      cases t with
      | true =>
        have hx : (match e.get y with | .x => False | s => K s none h) := hx
        cases hy : e.get y <;> simp only [hy] at hx <;> first | exact hx.elim | exact ⟨_, _, hx, fun _ _ _ hk => by (try simp only [ht, hy]); exact hk⟩
      | false =>
        have hx : (match e.get z with | .x => False | s => K s none h) := hx
        cases hy : e.get z <;> simp only [hy] at hx <;> first | exact hx.elim | exact ⟨_, _, hx, fun _ _ _ hk => by (try simp only [ht, hy]); exact hk⟩
    · exact hx.elim
  | alloc t =>
    have hl : inL F.L dst = true := by
      simp only [cls] at hc
      split at hc
      · assumption
      · simp at hc
    simp only [exec] at hx ⊢
    split at hx
    · rename_i ti hti
      obtain ⟨s, bx, h1, h2⟩ := newVar_fun hl hx
      exact ⟨s, bx, h1, fun h' K' E' hk => by (try simp only [hti]); exact h2 h' K' hk⟩
    · exact hx.elim
  | box t y =>
    have hl : inL F.L dst = true := by
      simp only [cls] at hc
      split at hc
      · assumption
      · simp at hc
    simp only [exec] at hx ⊢
    split at hx
    · rename_i v ti hv hti
      obtain ⟨cs, hx, h3⟩ := cellsAt_fun hx
      obtain ⟨s, bx, h1, h2⟩ := newVar_fun hl hx
      exact ⟨s, bx, h1, fun h' K' E' hk => by (try simp only [hv, hti]); exact h3 _ (h2 h' K' hk)⟩
    · exact hx.elim
  | build t ps =>
    simp only [exec] at hx ⊢
    obtain ⟨v, hx, h1⟩ := bld_fun hx
    exact ⟨_, _, hx, fun h' K' E' hk => h1 _ hk⟩
  | buildSlice t k ps =>
    have hl : inL F.L dst = true := by
      simp only [cls] at hc
      split at hc
      · assumption
      · simp at hc
    simp only [exec] at hx ⊢
    split at hx
    · rename_i el hti
      split at hx
      · rename_i te hte
        split at hx
        · rename_i hle
          obtain ⟨qs, hx, h3⟩ := parts_fun _ _ hx
          split at hx
          · rename_i cs hcs
            obtain ⟨s, bx, h1, h2⟩ := newRow_fun hl hx
            refine ⟨s, bx, h1, fun h' K' E' hk => ?_⟩
            try simp only [hti, hte, hle]
            refine h3 _ ?_
            try simp only [hcs]
            exact h2 h' K' hk
          · exact hx.elim
        · exact hx.elim
      · exact hx.elim
    · exact hx.elim
  | load t y =>
    have hl : inL F.LL dst = true := by
      simp only [cls] at hc
      split at hc
      · assumption
      · simp at hc
    simp only [exec] at hx ⊢
    split at hx
    · rename_i ti hti
      simp only [hl] at hx
      split at hx
      · rename_i u off hy
        obtain ⟨s, h1, h2⟩ := loadL_fun hx
        exact ⟨s, none, h1, fun h' K' E' hk => by (try simp only [hti, hl, hy]); exact h2 h' K' hk⟩
      · exact hx.elim
    · exact hx.elim
  | nilCheck y =>
    simp only [exec] at hx ⊢
    split at hx
    · rename_i hy; exact ⟨_, _, hx, fun _ _ _ hk => by (try simp only [hy]); exact hk⟩
    · rename_i hy; exact ⟨_, _, hx, fun _ _ _ hk => by (try simp only [hy]); exact hk⟩
    · rename_i hy; exact ⟨_, _, hx, fun _ _ _ hk => by (try simp only [hy]); exact hk⟩
    · rename_i hy; exact ⟨_, _, hx, fun _ _ _ hk => by (try simp only [hy]); exact hk⟩
    · exact hx.elim
  | binOp op t y z u =>
    simp only [exec] at hx ⊢
    split at hx
    · rename_i j i k m hy hz
      split at hx
      · rename_i hjk
        obtain ⟨v, hx, h1⟩ := binInt_fun hx
        exact ⟨_, _, hx, fun h' K' E' hk => by (try simp only [hy, hz, hjk]); exact h1 _ hk⟩
      · exact hx.elim
    · rename_i b c hy hz
      split at hx
      · rename_i hti
        split at hx
        · exact ⟨_, _, hx, fun h' K' E' hk => by (try simp only [hy, hz, hti]); exact hk⟩
        · exact ⟨_, _, hx, fun h' K' E' hk => by (try simp only [hy, hz, hti]); exact hk⟩
        · exact hx.elim
      · exact hx.elim
    · rename_i h1 h2
      obtain ⟨v, hx, h1⟩ := rawP_fun hx
      exact ⟨_, _, hx, fun h' K' E' hk => h1 h' K' hk⟩
  | unOp op t y =>
    simp only [exec] at hx ⊢
    split at hx
    · rename_i b hy; exact ⟨_, _, hx, fun _ _ _ hk => by (try simp only [hy]); exact hk⟩
    · rename_i k m hy; rw [ar_iff] at hx; exact ⟨_, _, hx, fun _ _ _ hk => by (try simp only [hy, ar_iff]); exact hk⟩
    · exact hx.elim
  | convert s t y =>
    simp only [exec] at hx ⊢
    split at hx
    · rename_i ti tj k m hti htj hy
      split at hx
      · rename_i k' hd
        rw [ar_iff] at hx
        exact ⟨_, _, hx, fun _ _ _ hk => by (try simp only [hti, htj, hy, hd, ar_iff]); exact hk⟩
      · exact hx.elim
    · exact hx.elim
  | makeInterface t y =>
    simp only [exec] at hx ⊢
    split at hx
    · rename_i ti v hti hy
      split at hx
      · exact hx.elim
      · rename_i hne
        refine ⟨_, _, hx, fun _ _ _ hk => ?_⟩
        try simp only [hti, hy]
        cases hd : ti.d <;> first | exact hk | exact absurd hd hne
    · exact hx.elim
  | makeFunc f fs cs =>
    simp only [exec] at hx ⊢
    obtain ⟨vs, hx, h1⟩ := vals_fun _ _ hx
    obtain ⟨us, hx, h2⟩ := vals_fun _ _ hx
    exact ⟨_, _, hx, fun _ _ _ hk => h1 _ (h2 _ hk)⟩
  | slice t y lo hi mx =>
    simp only [exec] at hx ⊢
    split at hx
    · rename_i el hti
      split at hx
      · rename_i te p m cap hte hy
        obtain ⟨v, hx, h1⟩ := sliceOf_fun hx
        exact ⟨_, _, hx, fun h' K' E' hk => by (try simp only [hti, hte, hy]); exact h1 _ hk⟩
      · exact hx.elim
    · exact hx.elim
  | fieldAddr t y i =>
    simp only [exec] at hx ⊢
    split at hx
    · rename_i fs hti
      split at hx
      · rename_i k u hf
        split at hx
        · rename_i hy; exact ⟨_, _, hx, fun _ _ _ hk => by (try simp only [hti, hf, hy]); exact hk⟩
        · rename_i hy; exact ⟨_, _, hx, fun _ _ _ hk => by (try simp only [hti, hf, hy]); exact hk⟩
        · exact hx.elim
      · exact hx.elim
    · exact hx.elim
  | field t y i =>
    simp only [exec] at hx ⊢
    split at hx
    · rename_i fs hti
      split at hx
      · rename_i k u hf
        split at hx
        · rename_i cs tu hy htu
          split at hx
          · rename_i vs hvs
            cases hag : tu.agg with
            | true =>
              simp only [hag, forceL_eq] at hx
              exact ⟨_, _, hx, fun _ _ _ hk => by (try simp only [hti, hf, hy, htu, hvs, hag, forceL_eq]); exact hk⟩
            | false =>
              simp only [hag] at hx
              split at hx
              · exact ⟨_, _, hx, fun _ _ _ hk => by (try simp only [hti, hf, hy, htu, hvs, hag]); exact hk⟩
              · exact hx.elim
          · exact hx.elim
        · exact hx.elim
      · exact hx.elim
    · exact hx.elim
  | indexAddr t y z =>
    simp only [exec] at hx ⊢
    split at hx
    · rename_i k i hz
      split at hx
      · rename_i el hti
        split at hx
        · rename_i hte hy
          obtain ⟨h1, hx⟩ := ob_iff.1 hx
          rw [Ptr_def] at hx; unfold Ptr_ at hx
          obtain ⟨b, off, hp, hx⟩ := hx
          exact ⟨_, _, hx, fun _ _ _ hk => by (try simp only [hz, hti, hte, hy]); exact ob_iff.2 ⟨h1, by rw [Ptr_def]; unfold Ptr_; exact ⟨b, off, hp, hk⟩⟩⟩
        · rename_i hte hy
          obtain ⟨h1, hx⟩ := ob_iff.1 hx
          exact ⟨_, _, hx, fun _ _ _ hk => by (try simp only [hz, hti, hte, hy]); exact ob_iff.2 ⟨h1, hk⟩⟩
        · exact hx.elim
      · rename_i el hti
        split at hx
        · rename_i hte hy
          obtain ⟨h1, hx⟩ := ob_iff.1 hx
          exact ⟨_, _, hx, fun _ _ _ hk => by (try simp only [hz, hti, hte, hy]); exact ob_iff.2 ⟨h1, hk⟩⟩
        · rename_i hte hy
          obtain ⟨h1, hx⟩ := ob_iff.1 hx
          exact ⟨_, _, hx, fun _ _ _ hk => by (try simp only [hz, hti, hte, hy]); exact ob_iff.2 ⟨h1, hk⟩⟩
        · exact hx.elim
      · exact hx.elim
    · exact hx.elim
  | index t y z =>
    simp only [exec] at hx ⊢
    split at hx
    · rename_i hy hz
      split at hx
      · rename_i hti
        obtain ⟨h1, hx⟩ := ob_iff.1 hx
        exact ⟨_, _, hx, fun _ _ _ hk => by (try simp only [hy, hz, hti]); exact ob_iff.2 ⟨h1, hk⟩⟩
      · exact hx.elim
    · exact hx.elim
  | extract y i =>
    simp only [exec] at hx ⊢
    split at hx
    · rename_i vs hy
      split at hx
      · rename_i v hv; exact ⟨_, _, hx, fun _ _ _ hk => by (try simp only [hy, hv]); exact hk⟩
      · exact hx.elim
    · exact hx.elim
  | call c =>
    obtain ⟨callee, args, ts⟩ := c
    cases callee with
    | value f => simp only [cls] at hc; split at hc <;> simp at hc
    | invoke r m => simp [cls, isW] at hc
    | builtin b =>
      cases b with
      | len =>
        simp only [exec] at hx ⊢
        split at hx
        · rename_i y hargs
          split at hx
          · rename_i hy
            split at hx
            · rename_i hti; exact ⟨_, _, hx, fun _ _ _ hk => by (try simp only [hargs, hy, hti]); exact hk⟩
            · exact hx.elim
          · rename_i hy
            split at hx
            · rename_i hti; exact ⟨_, _, hx, fun _ _ _ hk => by (try simp only [hargs, hy, hti]); exact hk⟩
            · exact hx.elim
          · exact hx.elim
        · exact hx.elim
      | append => simp [cls] at hc
      | max =>
        simp only [exec] at hx ⊢
        split at hx
        · split at hx
          · split at hx
            · exact ⟨_, _, hx, fun _ _ _ hk => by first | exact hk | (simp only [*]; exact hk)⟩
            · exact hx.elim
          · exact hx.elim
        · exact hx.elim
      | min =>
        simp only [exec] at hx ⊢
        split at hx
        · split at hx
          · split at hx
            · exact ⟨_, _, hx, fun _ _ _ hk => by first | exact hk | (simp only [*]; exact hk)⟩
            · exact hx.elim
          · exact hx.elim
        · exact hx.elim
      | cap =>
        simp only [exec] at hx ⊢
        split at hx
        · split at hx
          · split at hx
            · exact ⟨_, _, hx, fun _ _ _ hk => by first | exact hk | (simp only [*]; exact hk)⟩
            · exact hx.elim
          · exact hx.elim
        · exact hx.elim
      | _ => simp [cls, isW] at hc
  | _ => simp [cls, isW] at hc
def Slot.refs : Slot → Nat → Prop
  | .l t _, u => t = u
  | .r t _, u => t = u
  | _, _ => False
structure Res (F : Fs) (o : Oper) (e : Env) (h : Heap) (s : Slot) (bx : Bx) (h' : Heap) : Prop where
  fb : ∀ u cs, bx = some (u, cs) → (o.dst = some u ∧ e.b u = none) ∨ (cls F o = .W ∧ ∃ y ∈ o.op.operands, (e.get y).refs u)
  fs : ∀ u, s.refs u → (∃ y ∈ o.op.operands, (e.get y).refs u) ∨ (∃ cs, bx = some (u, cs))
  le : cls F o ≠ .W → cls F o ≠ .A → h.le h'
structure Agree (F : Fs) (o : Oper) (e e' : Env) : Prop where
  get : ∀ y ∈ o.op.operands, e'.get y = e.get y
  box : cls F o = .P ∨ ∀ y ∈ o.op.operands, ∀ u, (e.get y).refs u → e'.b u = e.b u
  dst : ∀ d, o.dst = some d → e.b d = none → e'.b d = none
theorem Res.plain {x : Value} : Res F o e h (.v x) none h := ⟨(fun _ _ hh => by cases hh), fun _ hh => hh.elim, fun _ _ => Heap.le_refl h⟩
theorem Res.same {s : Slot} {y : Operand} (hy : y ∈ o.op.operands) (hs : e.get y = s) : Res F o e h s none h :=
  ⟨(fun _ _ hh => by cases hh), fun u hh => .inl ⟨y, hy, by rw [hs]; exact hh⟩, fun _ _ => Heap.le_refl h⟩
theorem parts_env {e' : Env} {tyOf : Nat → Option TI} : ∀ (ps : List (Nat × Operand)) (Kp : List (Nat × List Value) → Prop), (∀ p ∈ ps, e'.get p.2 = e.get p.2) → parts e tyOf ps Kp → parts e' tyOf ps Kp
  | [], Kp, _, hx => hx
  | (i, x) :: ps, Kp, hg, hx => by
    simp only [parts, hg (i, x) (by simp)] at hx ⊢
    split at hx
    · obtain ⟨vs, hx, h1⟩ := cellsAt_fun hx
      exact h1 _ (parts_env ps _ (fun p hp => hg p (by simp [hp])) hx)
    · exact hx.elim
theorem vals_env {e' : Env} : ∀ (xs : List Operand) (Kc : List Value → Prop), (∀ x ∈ xs, e'.get x = e.get x) → vals e xs Kc → vals e' xs Kc
  | [], Kc, _, hx => hx
  | x :: xs, Kc, hg, hx => by
    simp only [vals, hg x (by simp)] at hx ⊢
    split at hx
    · exact vals_env xs _ (fun y hy => hg y (by simp [hy])) hx
    · exact hx.elim
theorem newVar_step {e' : Env} {t : TypeId} {cs : List Value} {K' : Slot → Bx → Heap → Prop} (hd : ∀ d, o.dst = some d → e.b d = none → e'.b d = none) (hx : newVar F t o.dst cs e h K)
    (hk : ∀ s bx h', K s bx h' → Res F o e h s bx h' → K' s bx h') : newVar F t o.dst cs e' h K' := by
  unfold newVar at hx ⊢
  split at hx
  · rename_i d hl
    have hl := isLocal_eq hl
    split at hx
    · rename_i hb
      rw [forceL_eq] at hx
      simp only [hd d hl hb, forceL_eq]
      exact hk _ _ _ hx ⟨fun u cs' hh => by simp only [Option.some.injEq, Prod.mk.injEq] at hh; exact .inl ⟨by rw [hl, hh.1], by rw [← hh.1]; exact hb⟩, fun u hh => .inr ⟨_, by cases hh; rfl⟩, fun _ _ => Heap.le_refl h⟩
    · exact hx.elim
  · rw [New_def] at hx ⊢; unfold New_ at hx ⊢
    intro b hb
    exact hk _ _ _ (hx b hb) ⟨(fun _ _ hh => by cases hh), fun _ hh => hh.elim, fun _ _ => Heap.le_set _ hb⟩
theorem newRow_step {e' : Env} {t : TypeId} {n : Nat} {cs : List Value} {K' : Slot → Bx → Heap → Prop} (hd : ∀ d, o.dst = some d → e.b d = none → e'.b d = none) (hx : newRow F t o.dst n cs e h K)
    (hk : ∀ s bx h', K s bx h' → Res F o e h s bx h' → K' s bx h') : newRow F t o.dst n cs e' h K' := by
  unfold newRow at hx ⊢
  split at hx
  · rename_i d hl
    have hl := isLocal_eq hl
    split at hx
    · rename_i hb
      rw [forceL_eq] at hx
      simp only [hd d hl hb, forceL_eq]
      exact hk _ _ _ hx ⟨fun u cs' hh => by simp only [Option.some.injEq, Prod.mk.injEq] at hh; exact .inl ⟨by rw [hl, hh.1], by rw [← hh.1]; exact hb⟩, fun u hh => .inr ⟨_, by cases hh; rfl⟩, fun _ _ => Heap.le_refl h⟩
    · exact hx.elim
  · rw [New_def] at hx ⊢; unfold New_ at hx ⊢
    intro b hb
    exact hk _ _ _ (hx b hb) ⟨(fun _ _ hh => by cases hh), fun _ hh => hh.elim, fun _ _ => Heap.le_set _ hb⟩
theorem load_env {e' : Env} {ti : TI} {x : Slot} (hb : ∀ u, x.refs u → e'.b u = e.b u) (hx : load ti x e h K) : ∃ v, K (.v v) none h ∧ ∀ K' : Slot → Bx → Heap → Prop, K' (.v v) none h → load ti x e' h K' := by
  cases x with
  | l u off =>
    have hr : rdBox e' u off ti.size = rdBox e u off ti.size := by unfold rdBox; rw [hb u rfl]
    unfold load at hx ⊢
    simp only [hr] at hx ⊢
    cases hvs : rdBox e u off ti.size with
    | none => rw [hvs] at hx; exact hx.elim
    | some vs =>
      rw [hvs] at hx
      cases hag : ti.agg with
      | true =>
        simp only [hag, forceL_eq] at hx
        exact ⟨_, hx, fun K' hk => by simp only [forceL_eq]; exact hk⟩
      | false =>
        simp only [hag] at hx
        rcases vs with _ | ⟨v, _ | _⟩
        · exact hx.elim
        · exact ⟨_, hx, fun K' hk => hk⟩
        · exact hx.elim
  | r u k => exact hx.elim
  | x => exact hx.elim
  | v v =>
    obtain ⟨ss, h1, h2⟩ := load_fun hx
    unfold load at hx ⊢
    split at hx
    · rename_i hh; cases hh
    · rename_i b off hh
      cases hh
      cases hag : ti.agg with
      | true =>
        simp only [hag] at hx
        rw [LdN_def] at hx ⊢; unfold LdN_ at hx ⊢
        obtain ⟨vs, hvs, hx⟩ := hx
        exact ⟨_, hx, fun K' hk => ⟨vs, hvs, hk⟩⟩
      | false =>
        simp only [hag] at hx
        split at hx
        · rw [Ld_def] at hx ⊢; unfold Ld_ at hx ⊢
          obtain ⟨v, hv, hx⟩ := hx
          exact ⟨_, hx, fun K' hk => ⟨v, hv, hk⟩⟩
        · exact hx.elim
    · exact hx.elim
theorem raw_env {e' : Env} {Kv Kv' : Value → Heap → Prop} (hg : ∀ y ∈ o.op.operands, e'.get y = e.get y) (hx : Raw P o e h Kv) (hk : ∀ v h', Kv v h' → Kv' v h') : Raw P o e' h Kv' := by
  rw [Raw_def] at hx ⊢; unfold Raw_ at hx ⊢
  refine ⟨fun x hm => by rw [hg x hm]; exact hx.1 x hm, fun ρ hρ w hv => ?_⟩
  obtain ⟨v, w', h', h1, h2, h3⟩ := hx.2 ρ (fun x hm => by rw [← hg x hm]; exact hρ x hm) w hv
  exact ⟨v, w', h', h1, h2, hk _ _ h3⟩
theorem CallsH.mono {f : FuncId} {args : List Value} {R R' : Out → Heap → Prop} (hx : CallsH P f args h R) (hr : ∀ o h', R o h' → R' o h') : CallsH P f args h R' := by
  intro w hv
  refine (hx w hv).mono ?_
  rintro e w' ⟨h', m, hm⟩
  refine ⟨h', m, ?_⟩
  cases e <;> first | exact hr _ _ hm | exact hm
theorem store_env {e' : Env} {ti : TI} {x : Slot} {v : Value} {K' : Slot → Bx → Heap → Prop} (hb : ∀ u, x.refs u → e'.b u = e.b u) (hx : store ti x v e h K)
    (hk : ∀ s bx h', K s bx h' → (s = .v undef ∧ ∀ u cs, bx = some (u, cs) → x.refs u) → K' s bx h') : store ti x v e' h K' := by
  unfold store at hx ⊢
  obtain ⟨vs, hx, h1⟩ := cellsAt_fun hx
  refine h1 _ ?_
  split at hx
  · exact hx.elim
  · cases x with
    | l u off =>
      simp only at hx ⊢
      rw [hb u rfl]
      split at hx
      · split at hx
        · exact hk _ _ _ hx ⟨rfl, fun u' cs' hh => by simp only [Option.some.injEq, Prod.mk.injEq] at hh; exact hh.1⟩
        · exact hx.elim
      · exact hx.elim
    | v v =>
      cases v with
      | pointer p =>
        rcases p with _ | ⟨b, off, _ | sp⟩
        · exact hx.elim
        · simp only at hx ⊢
          rw [St_def] at hx ⊢; unfold St_ at hx ⊢
          obtain ⟨cs, t, g1, g2, g3⟩ := hx
          exact ⟨cs, t, g1, g2, hk _ _ _ g3 ⟨rfl, (fun _ _ hh => by cases hh)⟩⟩
        · exact hx.elim
      | _ => exact hx.elim
    | _ => exact hx.elim
theorem appArg_env {e' : Env} {size : Nat} {x : Slot} {Kc : Nat → List Value → Prop} (hb : ∀ u, x.refs u → e'.b u = e.b u) (hx : appArg e size x h Kc) :
    ∃ m vs, Kc m vs ∧ ∀ Kd : Nat → List Value → Prop, Kd m vs → appArg e' size x h Kd := by
  unfold appArg at hx ⊢
  split at hx
  · rename_i t k
    simp only [hb t rfl]
    split at hx
    · split at hx
      · rename_i hl; exact ⟨_, _, hx, fun _ hk => by (try simp only [hl]); exact hk⟩
      · exact hx.elim
    · exact hx.elim
  · rw [LdP_def] at hx ⊢; unfold LdP_ at hx ⊢
    rcases hx with ⟨hz, hx⟩ | ⟨b, off, vs, hp, hvs, hx⟩
    · exact ⟨_, _, hx, fun _ hk => .inl ⟨hz, hk⟩⟩
    · exact ⟨_, _, hx, fun _ hk => .inr ⟨b, off, vs, hp, hvs, hk⟩⟩
  · exact hx.elim
theorem App.mono {bytes size : Nat} {zero : List Value} {el : TypeId} {p : Option Addr} {n cap m : Nat} {vs : List Value} {Kv Kv' : Value → Heap → Prop} (hx : App bytes size zero el h p n cap m vs Kv) (hk : ∀ v h', Kv v h' → Kv' v h') :
    App bytes size zero el h p n cap m vs Kv' := by
  rw [App_def] at hx ⊢; unfold App_ at hx ⊢
  refine ⟨fun hle => ?_, fun hlt => ?_⟩
  · obtain ⟨h1, h2⟩ := hx.1 hle
    refine ⟨h1, ?_⟩
    rcases p with _ | ⟨b, off, _ | sp⟩
    · exact ⟨h2.1, hk _ _ h2.2⟩
    · obtain ⟨cs, t, h3, h4, h5⟩ := h2
      exact ⟨cs, t, h3, h4, hk _ _ h5⟩
    · exact h2.elim
  · obtain ⟨h1, h2, old, h3, h4⟩ := hx.2 hlt
    exact ⟨h1, h2, old, h3, fun b c hb hc => hk _ _ (h4 b c hb hc)⟩
theorem callFn_step {x : Bool} {fv : Value} {args : List Value} {K' : Slot → Bx → Heap → Prop} (hx : callFn P S x fv args h K E) (hk : ∀ s bx h', K s bx h' → (∃ v, s = .v v) → bx = none → (x = true → h.le h') → K' s bx h') : callFn P S x fv args h K' E := by
  unfold callFn at hx ⊢
  split at hx
  · split at hx
    · rw [forceL_eq] at hx ⊢
      cases x with
      | true =>
        simp only at hx ⊢
        rw [CallX_def] at hx ⊢; unfold CallX_ at hx ⊢
        refine hx.mono fun o h' hh => ?_
        cases o with
        | ret v => exact ⟨hh.1, hk _ _ _ hh.2 ⟨v, rfl⟩ rfl (fun _ => hh.1)⟩
        | pan c => exact hh
      | false =>
        simp only at hx ⊢
        rw [Call_def] at hx ⊢; unfold Call_ at hx ⊢
        refine hx.mono fun o h' hh => ?_
        cases o with
        | ret v => exact hk _ _ _ hh ⟨v, rfl⟩ rfl (fun h0 => by cases h0)
        | pan c => exact hh
    · exact hx.elim
  · exact hx.elim
theorem refs_nil {s : Slot} {u : Nat} (hs : (∃ v, s = .v v) ∨ s = .x) (hr : s.refs u) : False := by
  rcases hs with ⟨v, rfl⟩ | rfl <;> exact hr
theorem cls_W {o : Oper} (hw : isW o.op = true) : cls F o = .W := by
  obtain ⟨dst, op, ty, pos, after, guard⟩ := o
  cases op with
  | call c =>
    obtain ⟨callee, args, ts⟩ := c
    cases callee with
    | value f => cases hw
    | invoke r m => rfl
    | builtin b => cases b <;> first | rfl | cases hw
  | _ => first | rfl | cases hw
theorem exec_step {e' : Env} {K' : Slot → Bx → Heap → Prop} (ha : Agree F o e e') (hx : exec P S F true o e h K E)
    (hk : ∀ s bx h', K s bx h' → Res F o e h s bx h' → K' s bx h') : exec P S F true o e' h K' E := by
  obtain ⟨dst, op, ty, pos, after, guard⟩ := o
  have hkv : ∀ v, K (.v v) none h → K' (.v v) none h := fun v hv => hk _ _ _ hv Res.plain
  have hraw : ∀ W : Bool, W = isW op → (match true && !W with
    | true => False
    | false => Raw P ⟨dst, op, ty, pos, after, guard⟩ e h fun v h' => K (.v v) none h') → (match true && !W with
    | true => False
    | false => Raw P ⟨dst, op, ty, pos, after, guard⟩ e' h fun v h' => K' (.v v) none h') := by
    intro W hW hr
    cases W with
    | false => exact hr
    | true =>
      refine raw_env ha.get hr fun v h' hv => hk _ _ _ hv ⟨(fun _ _ hh => by cases hh), (fun _ hh => hh.elim), fun hc _ => ?_⟩
      exact absurd (cls_W hW.symm) hc
  cases op with
  | move y =>
    have hg := ha.get y (by simp [Op.operands])
    simp only [exec, hg] at hx ⊢
    cases hy : e.get y <;> simp only [hy] at hx <;> first | exact hx.elim | exact hk _ _ _ hx (Res.same (y := y) (by simp [Op.operands]) hy)
  | assign y =>
    have hg := ha.get y (by simp [Op.operands])
    simp only [exec, hg] at hx ⊢
    cases hy : e.get y <;> simp only [hy] at hx <;> first | exact hx.elim | exact hk _ _ _ hx (Res.same (y := y) (by simp [Op.operands]) hy)
  | pick c y z =>
    have hgc := ha.get c (by simp [Op.operands])
    have hgy := ha.get y (by simp [Op.operands])
    have hgz := ha.get z (by simp [Op.operands])
    simp only [exec, hgc, hgy, hgz] at hx ⊢
    split at hx
    · rename_i t ht
      cases t with
      | true =>
        have hx : (match e.get y with | .x => False | s => K s none h) := hx
        show (match e.get y with | .x => False | s => K' s none h)
        cases hy : e.get y <;> simp only [hy] at hx <;> first | exact hx.elim | exact hk _ _ _ hx (Res.same (y := y) (by simp [Op.operands]) hy)
      | false =>
        have hx : (match e.get z with | .x => False | s => K s none h) := hx
        show (match e.get z with | .x => False | s => K' s none h)
        cases hy : e.get z <;> simp only [hy] at hx <;> first | exact hx.elim | exact hk _ _ _ hx (Res.same (y := z) (by simp [Op.operands]) hy)
    · exact hx.elim
  | alloc t =>
    simp only [exec] at hx ⊢
    split at hx
    · exact newVar_step (o := ⟨dst, .alloc t, ty, pos, after, guard⟩) ha.dst hx hk
    · exact hx.elim
  | box t y =>
    have hg := ha.get y (by simp [Op.operands])
    simp only [exec, hg] at hx ⊢
    split at hx
    · obtain ⟨cs, hx, h3⟩ := cellsAt_fun hx
      exact h3 _ (newVar_step (o := ⟨dst, .box t y, ty, pos, after, guard⟩) ha.dst hx hk)
    · exact hx.elim
  | build t ps =>
    have hg : ∀ p ∈ ps.toList, e'.get p.2 = e.get p.2 := fun p hp => ha.get p.2 (by simp only [Op.operands]; exact List.mem_toArray.2 (List.mem_map.2 ⟨p, hp, rfl⟩))
    simp only [exec] at hx ⊢
    unfold bld at hx ⊢
    split at hx
    · split at hx
      · exact hx.elim
      · obtain ⟨qs, hx, h1⟩ := parts_fun _ _ hx
        refine parts_env _ _ hg (h1 _ ?_)
        split at hx
        · rw [forceL_eq] at hx ⊢
          exact hkv _ hx
        · exact hx.elim
    · exact hx.elim
  | buildSlice t k ps =>
    have hg : ∀ p ∈ ps.toList, e'.get p.2 = e.get p.2 := fun p hp => ha.get p.2 (by simp only [Op.operands]; exact List.mem_toArray.2 (List.mem_map.2 ⟨p, hp, rfl⟩))
    simp only [exec] at hx ⊢
    split at hx
    · split at hx
      · split at hx
        · obtain ⟨qs, hx, h3⟩ := parts_fun _ _ hx
          refine parts_env _ _ hg (h3 _ ?_)
          split at hx
          · exact newRow_step (o := ⟨dst, .buildSlice t k ps, ty, pos, after, guard⟩) ha.dst hx hk
          · exact hx.elim
        · exact hx.elim
      · exact hx.elim
    · exact hx.elim
  | load t y =>
    have hg := ha.get y (by simp [Op.operands])
    have hb : ∀ u, (e.get y).refs u → e'.b u = e.b u := by
      rcases ha.box with hc | hb
      · simp only [cls] at hc
        split at hc <;> cases hc
      · exact hb y (by simp [Op.operands])
    simp only [exec, hg] at hx ⊢
    split at hx
    · split at hx
      · split at hx
        · rename_i u off hy
          obtain ⟨v, h1, h2⟩ := load_env (e' := e') (fun u' hu => hb u' (by rw [hy]; exact hu)) hx
          exact h2 _ (hkv _ h1)
        · exact hx.elim
      · obtain ⟨v, h1, h2⟩ := load_env (e' := e') hb hx
        exact h2 _ (hkv _ h1)
    · exact hx.elim
  | store t y z =>
    have hgy := ha.get y (by simp [Op.operands])
    have hgz := ha.get z (by simp [Op.operands])
    have hb : ∀ u, (e.get y).refs u → e'.b u = e.b u := by
      rcases ha.box with hc | hb
      · simp [cls, isW] at hc
      · exact hb y (by simp [Op.operands])
    simp only [exec, hgy, hgz] at hx ⊢
    split at hx
    · refine store_env hb hx fun s bx h' hK hr => hk _ _ _ hK ?_
      refine ⟨fun u cs hh => .inr ⟨by simp [cls, isW], y, by simp [Op.operands], hr.2 u cs hh⟩, fun u hu => ?_, fun hc _ => ?_⟩
      · rw [hr.1] at hu; exact hu.elim
      · exact absurd (by simp [cls, isW]) hc
    · exact hx.elim
  | nilCheck y =>
    have hg := ha.get y (by simp [Op.operands])
    simp only [exec, hg] at hx ⊢
    split at hx
    · rename_i hy; exact hk _ _ _ hx (Res.same (y := y) (by simp [Op.operands]) hy)
    · exact hkv _ hx
    · exact hkv _ hx
    · exact hkv _ hx
    · exact hraw _ rfl hx
  | binOp op t y z u =>
    have hgy := ha.get y (by simp [Op.operands])
    have hgz := ha.get z (by simp [Op.operands])
    simp only [exec, hgy, hgz] at hx ⊢
    split at hx
    · split at hx
      · obtain ⟨v, hx, h1⟩ := binInt_fun hx
        exact h1 _ (hkv _ hx)
      · exact hraw _ rfl hx
    · split at hx
      · split at hx
        · exact hkv _ hx
        · exact hkv _ hx
        · exact hraw _ rfl hx
      · exact hraw _ rfl hx
    · obtain ⟨v, hx, h1⟩ := rawP_fun hx
      exact rawP_env ha.get (h1 h (fun s bx h' => K' s bx h') (hkv _ hx))
  | unOp op t y =>
    have hg := ha.get y (by simp [Op.operands])
    simp only [exec, hg] at hx ⊢
    split at hx
    · exact hkv _ hx
    · rw [ar_iff] at hx ⊢; exact hkv _ hx
    · exact hraw _ rfl hx
  | convert s t y =>
    have hg := ha.get y (by simp [Op.operands])
    simp only [exec, hg] at hx ⊢
    split at hx
    · split at hx
      · rw [ar_iff] at hx ⊢; exact hkv _ hx
      · exact hraw _ rfl hx
    · exact hraw _ rfl hx
  | makeInterface t y =>
    have hg := ha.get y (by simp [Op.operands])
    simp only [exec, hg] at hx ⊢
    split at hx
    · split at hx
      · exact hx.elim
      · exact hkv _ hx
    · exact hx.elim
  | makeFunc f fs cs =>
    simp only [exec] at hx ⊢
    obtain ⟨vs, hx, h1⟩ := vals_fun _ _ hx
    obtain ⟨us, hx, h2⟩ := vals_fun _ _ hx
    refine vals_env _ _ (fun x hm => ha.get x (by simp only [Op.operands]; exact Array.mem_append.2 (.inl (Array.mem_toList_iff.1 hm)))) (h1 _ ?_)
    exact vals_env _ _ (fun x hm => ha.get x (by simp only [Op.operands]; exact Array.mem_append.2 (.inr (Array.mem_toList_iff.1 hm)))) (h2 _ (hkv _ hx))
  | slice t y lo hi mx =>
    have hg := ha.get y (by simp [Op.operands])
    have hlo : optGet e' lo = optGet e lo := by
      cases lo with
      | none => rfl
      | some x => simp only [optGet]; rw [ha.get x (by simp [Op.operands])]
    have hhi : optGet e' hi = optGet e hi := by
      cases hi with
      | none => rfl
      | some x => simp only [optGet]; rw [ha.get x (by simp [Op.operands])]
    simp only [exec, hg, hlo, hhi] at hx ⊢
    split at hx
    · split at hx
      · obtain ⟨v, hx, h1⟩ := sliceOf_fun hx
        exact h1 _ (hkv _ hx)
      · exact hraw _ rfl hx
    · exact hraw _ rfl hx
  | fieldAddr t y i =>
    have hg := ha.get y (by simp [Op.operands])
    simp only [exec, hg] at hx ⊢
    split at hx
    · split at hx
      · split at hx
        · rename_i u off hy
          exact hk _ _ _ hx ⟨(fun _ _ hh => by cases hh), (fun u' hh => .inl ⟨y, by simp [Op.operands], by rw [hy]; exact hh⟩), fun _ _ => Heap.le_refl h⟩
        · exact hkv _ hx
        · exact hx.elim
      · exact hx.elim
    · exact hx.elim
  | field t y i =>
    have hg := ha.get y (by simp [Op.operands])
    simp only [exec, hg] at hx ⊢
    split at hx
    · split at hx
      · split at hx
        · rename_i cs tu hy htu
          split at hx
          · cases hag : tu.agg with
            | true => simp only [hag, forceL_eq] at hx ⊢; exact hkv _ hx
            | false =>
              simp only [hag] at hx
              simp only
              split at hx
              · exact hkv _ hx
              · exact hx.elim
          · exact hx.elim
        · exact hx.elim
      · exact hx.elim
    · exact hx.elim
  | indexAddr t y z =>
    have hgy := ha.get y (by simp [Op.operands])
    have hgz := ha.get z (by simp [Op.operands])
    simp only [exec, hgy, hgz] at hx ⊢
    split at hx
    · split at hx
      · split at hx
        · obtain ⟨h1, hx⟩ := ob_iff.1 hx
          rw [Ptr_def] at hx ⊢; unfold Ptr_ at hx ⊢
          obtain ⟨b, off, hp, hx⟩ := hx
          exact ob_iff.2 ⟨h1, b, off, hp, hkv _ hx⟩
        · rename_i hy
          obtain ⟨h1, hx⟩ := ob_iff.1 hx
          exact ob_iff.2 ⟨h1, hk _ _ _ hx ⟨(fun _ _ hh => by cases hh), (fun u' hh => .inl ⟨y, by simp [Op.operands], by rw [hy]; exact hh⟩), fun _ _ => Heap.le_refl h⟩⟩
        · exact hx.elim
      · split at hx
        · obtain ⟨h1, hx⟩ := ob_iff.1 hx; exact ob_iff.2 ⟨h1, hkv _ hx⟩
        · rename_i hy
          obtain ⟨h1, hx⟩ := ob_iff.1 hx
          exact ob_iff.2 ⟨h1, hk _ _ _ hx ⟨(fun _ _ hh => by cases hh), (fun u' hh => .inl ⟨y, by simp [Op.operands], by rw [hy]; exact hh⟩), fun _ _ => Heap.le_refl h⟩⟩
        · exact hx.elim
      · exact hx.elim
    · exact hx.elim
  | index t y z =>
    have hgy := ha.get y (by simp [Op.operands])
    have hgz := ha.get z (by simp [Op.operands])
    simp only [exec, hgy, hgz] at hx ⊢
    split at hx
    · split at hx
      · obtain ⟨h1, hx⟩ := ob_iff.1 hx; exact ob_iff.2 ⟨h1, hkv _ hx⟩
      · exact hraw _ rfl hx
    · exact hraw _ rfl hx
  | extract y i =>
    have hg := ha.get y (by simp [Op.operands])
    simp only [exec, hg] at hx ⊢
    split at hx
    · split at hx
      · exact hkv _ hx
      · exact hx.elim
    · exact hx.elim
  | makeSlice t y z =>
    have hgy := ha.get y (by simp [Op.operands])
    have hgz := ha.get z (by simp [Op.operands])
    simp only [exec, hgy, hgz] at hx ⊢
    split at hx
    · split at hx
      · obtain ⟨h1, hx⟩ := ob_iff.1 hx
        refine ob_iff.2 ⟨h1, ?_⟩
        rw [New_def] at hx ⊢; unfold New_ at hx ⊢
        exact fun b hb => hk _ _ _ (hx b hb) ⟨(fun _ _ hh => by cases hh), (fun _ hh => hh.elim), fun _ _ => Heap.le_set _ hb⟩
      · exact hx.elim
    · exact hx.elim
  | panic y =>
    have hg := ha.get y (by simp [Op.operands])
    simp only [exec, hg] at hx ⊢
    exact hx
  | call c =>
    obtain ⟨callee, args, ts⟩ := c
    cases callee with
    | value f =>
      have hg := ha.get f (by simp [Op.operands, Call.operands])
      simp only [exec, hg] at hx ⊢
      split at hx
      · obtain ⟨vs, hx, h1⟩ := vals_fun _ _ hx
        refine vals_env _ _ (fun x hm => ha.get x (by simp [Op.operands, Call.operands, Array.mem_toList_iff.1 hm])) (h1 _ ?_)
        refine callFn_step hx fun s bx h' hK hs hbx hle => hk _ _ _ hK ?_
        obtain ⟨v, rfl⟩ := hs
        subst hbx
        refine ⟨(fun _ _ hh => by cases hh), (fun _ hh => hh.elim), fun _ hA => hle ?_⟩
        cases hm : mutF F f with
        | true => exact absurd (by simp only [cls, hm]) hA
        | false => rfl
      · exact hx.elim
    | invoke r m => exact hraw _ rfl hx
    | builtin b =>
      cases b with
      | len =>
        simp only [exec] at hx ⊢
        split at hx
        · rename_i y hargs
          have hg := ha.get y (by simp [Op.operands, Call.operands, Array.mem_toList_iff.1 (show y ∈ args.toList by rw [hargs]; simp)])
          simp only [hg]
          split at hx
          · split at hx
            · exact hkv _ hx
            · exact hx.elim
          · split at hx
            · exact hkv _ hx
            · exact hx.elim
          · exact hraw _ rfl hx
        · exact hx.elim
      | max =>
        simp only [exec] at hx ⊢
        split at hx
        · rename_i y z hargs
          have hgy := ha.get y (by simp [Op.operands, Call.operands, Array.mem_toList_iff.1 (show y ∈ args.toList by rw [hargs]; simp)])
          have hgz := ha.get z (by simp [Op.operands, Call.operands, Array.mem_toList_iff.1 (show z ∈ args.toList by rw [hargs]; simp)])
          simp only [hgy, hgz]
          split at hx
          · split at hx
            · exact hkv _ hx
            · exact hraw _ rfl hx
          · exact hraw _ rfl hx
        · exact hraw _ rfl hx
      | min =>
        simp only [exec] at hx ⊢
        split at hx
        · rename_i y z hargs
          have hgy := ha.get y (by simp [Op.operands, Call.operands, Array.mem_toList_iff.1 (show y ∈ args.toList by rw [hargs]; simp)])
          have hgz := ha.get z (by simp [Op.operands, Call.operands, Array.mem_toList_iff.1 (show z ∈ args.toList by rw [hargs]; simp)])
          simp only [hgy, hgz]
          split at hx
          · split at hx
            · exact hkv _ hx
            · exact hraw _ rfl hx
          · exact hraw _ rfl hx
        · exact hraw _ rfl hx
      | cap =>
        simp only [exec] at hx ⊢
        split at hx
        · rename_i y hargs
          have hg := ha.get y (by simp [Op.operands, Call.operands, Array.mem_toList_iff.1 (show y ∈ args.toList by rw [hargs]; simp)])
          simp only [hg]
          split at hx
          · split at hx
            · exact hkv _ hx
            · exact hx.elim
          · exact hraw _ rfl hx
        · exact hx.elim
      | append =>
        simp only [exec] at hx ⊢
        split at hx
        · rename_i y z t u hargs hts
          have hgy := ha.get y (by simp [Op.operands, Call.operands, Array.mem_toList_iff.1 (show y ∈ args.toList by rw [hargs]; simp)])
          have hmz : z ∈ (⟨dst, .call ⟨.builtin .append, args, ts⟩, ty, pos, after, guard⟩ : Oper).op.operands := by
            simp [Op.operands, Call.operands, Array.mem_toList_iff.1 (show z ∈ args.toList by rw [hargs]; simp)]
          have hgz := ha.get z hmz
          have hb : ∀ u, (e.get z).refs u → e'.b u = e.b u := by
            rcases ha.box with hc | hb
            · simp [cls] at hc
            · exact hb z hmz
          simp only [hgy, hgz]
          split at hx
          · split at hx
            · split at hx
              · obtain ⟨m, vs, hx, h1⟩ := appArg_env (e' := e') hb hx
                exact h1 _ (hx.mono fun v h' hv => hk _ _ _ hv ⟨(fun _ _ hh => by cases hh), (fun _ hh => hh.elim), fun _ hc => absurd (by simp [cls]) hc⟩)
              · exact hx.elim
            · exact hx.elim
          · exact hraw _ rfl hx
        · exact hx.elim
      | _ => exact hraw _ rfl hx
  | _ => exact hraw _ rfl hx
def gd (ops : Array Oper) (o : Oper) (e : Env) : Option Bool :=
  match o.guard with
  | none => some true
  | some (j, w) => match ops[j]? with
    | none => some false
    | some o' => match o'.dst with
      | none => some false
      | some d => match e.s d with
        | .v (.bool b) => some (b == w)
        | .v (.tuple _) => some false
        | _ => none
def one (P : Program) (S : Sig) (F : Fs) (ops : Array Oper) (o : Oper) (e : Env) (h : Heap) (K : Env → Heap → Prop) (E : List PanicEntry → Heap → Prop) : Prop :=
  match gd ops o e with
  | some true => exec P S F true o e h (fun s bx h' => K (e.put o.dst s bx) h') E
  | some false => K (e.put o.dst (.v undef) none) h
  | none => False
theorem put_same {d : Nat} {s : Slot} (hs : e.s d = s) : e.put (some d) s none = e := by
  unfold Env.put
  cases e with
  | mk es eb =>
    simp only at hs ⊢
    congr 1
    funext t
    split
    · rename_i hh; rw [hh, hs]
    · rfl
theorem oneOp_one {ops : Array Oper} {K : Env → Heap → Prop} : oneOp P S F true ops.toList o e h K E ↔ one P S F ops o e h K E := by
  unfold oneOp one guardOf gd
  cases hg : o.guard with
  | none => exact Iff.rfl
  | some jw =>
    obtain ⟨j, w⟩ := jw
    simp only [nth_eq, Array.getElem?_toList]
    cases ho : ops[j]? with
    | none => exact Iff.rfl
    | some o' =>
      simp only
      cases hd : o'.dst with
      | none => exact Iff.rfl
      | some d =>
        simp only
        cases hs : e.s d with
        | v x =>
          cases x with
          | bool b =>
            simp only
            cases b <;> cases w <;> simp only [put_same hs] <;> exact Iff.rfl
          | _ => exact Iff.rfl
        | _ => exact Iff.rfl
def dAll (P : Program) (S : Sig) (F : Fs) (ops : Array Oper) (K : Env → Heap → Prop) (E : List PanicEntry → Heap → Prop) : Nat → Array Bool → Env → Heap → Prop
  | 0, listed, e, h => Region.ready .any ops listed = [] ∧ K e h
  | k + 1, listed, e, h => (Region.ready .any ops listed = [] → K e h) ∧
    ∀ i ∈ Region.ready .any ops listed, ∃ o, ops[i]? = some o ∧ one P S F ops o e h (fun e' h' => dAll P S F ops K E k (listed.setIfInBounds i true) e' h') E
theorem dAll_sound {n : Nat} (hS : SigOk P S) {ops : Array Oper} (hd : ∀ o ∈ ops.toList, ∀ d', o.dst = some d' → d' < n) {K : Env → Heap → Prop} {Q : Exit → Act → World → Prop} {h0 : Heap} {w0 : World}
    (hk : ∀ e' h' β' a' w', K e' h' → Rel D n h0 w0 β' e' h' a' w' → Q .normal a' w')
    (hE : ∀ c h' a' w', E c h' → Moves h0 w0 h' w' → a'.defers = D → Q (.panic c) a' w') :
    ∀ (k : Nat) (listed : Array Bool) (e : Env) (h : Heap) (β : Nat → Nat) (a : Act) (w : World), dAll P S F ops K E k listed e h → Rel D n h0 w0 β e h a w → wpAny P .any ops Q k listed a w
  | 0, listed, e, h, β, a, w, hx, r => ⟨hx.1, hk _ _ β _ _ hx.2 r⟩
  | k + 1, listed, e, h, β, a, w, hx, r => ⟨fun h0 => hk _ _ β _ _ (hx.1 h0) r, fun i hi => by
      obtain ⟨o, ho, h1⟩ := hx.2 i hi
      exact oneOp_sound hS ho r (hd o (by rw [← Array.getElem?_toList] at ho; exact List.mem_of_getElem? ho)) (oneOp_one.2 h1) (fun e' h' β' a' w' hK hR => dAll_sound hS hd hk hE k _ e' h' β' a' w' hK hR) hE⟩
def WF (e : Env) : Prop := ∀ t u, (e.s t).refs u → (e.b u).isSome
theorem WF.get (hw : WF e) {y : Operand} {u : Nat} (hr : (e.get y).refs u) : (e.b u).isSome := by
  cases y with
  | tmp t => exact hw t u hr
  | _ => exact hr.elim
theorem Rel.wf {n : Nat} {h0 : Heap} {w0 : World} {β : Nat → Nat} {a : Act} {w : World} (r : Rel D n h0 w0 β e h a w) : WF e := by
  intro t u hr
  have := r.slot t
  revert hr this
  cases e.s t <;> intro hr this <;> first | exact hr.elim | (cases hr; exact this.2)
theorem wf_put (hw : WF e) {d : Option Nat} {s : Slot} {bx : Bx} (hs : ∀ u, s.refs u → (e.b u).isSome ∨ ∃ cs, bx = some (u, cs)) : WF (e.put d s bx) := by
  have hb : ∀ u, ((e.b u).isSome ∨ ∃ cs, bx = some (u, cs)) → ((e.put d s bx).b u).isSome := by
    intro u hu
    unfold Env.put
    cases bx with
    | none => rcases hu with hu | ⟨cs, hh⟩
              · exact hu
              · cases hh
    | some uc =>
      obtain ⟨u', cs'⟩ := uc
      simp only
      split
      · rfl
      · rename_i hne
        rcases hu with hu | ⟨cs, hh⟩
        · exact hu
        · simp only [Option.some.injEq, Prod.mk.injEq] at hh; exact absurd hh.1.symm hne
  intro t u hr
  cases d with
  | none => exact hb u (.inl (hw t u hr))
  | some d =>
    simp only [Env.put] at hr
    split at hr
    · exact hb u (hs u hr)
    · exact hb u (.inl (hw t u hr))
theorem get_put {d : Option Nat} {s : Slot} {bx : Bx} {y : Operand} (hne : ∀ d', d = some d' → y ≠ .tmp d') : (e.put d s bx).get y = e.get y := by
  cases y with
  | tmp t =>
    cases d with
    | none => rfl
    | some d =>
      have : t ≠ d := fun hh => hne d rfl (by rw [hh])
      simp [Env.get, Env.put, this]
  | _ => rfl
theorem put_b {d : Option Nat} {s : Slot} {bx : Bx} {u : Nat} (hne : ∀ u' cs, bx = some (u', cs) → u ≠ u') : (e.put d s bx).b u = e.b u := by
  cases bx with
  | none => rfl
  | some uc => obtain ⟨u', cs⟩ := uc; simp [Env.put, hne u' cs rfl]
theorem put_comm {d d' : Option Nat} {s s' : Slot} {bx bx' : Bx} (hd : ∀ t, d = some t → d' ≠ some t) (hb : ∀ u cs, bx = some (u, cs) → ∀ u' cs', bx' = some (u', cs') → u ≠ u') :
    (e.put d s bx).put d' s' bx' = (e.put d' s' bx').put d s bx := by
  unfold Env.put
  congr 1
  · cases d with
    | none => rfl
    | some t =>
      cases d' with
      | none => rfl
      | some t' =>
        have hne : t ≠ t' := fun hh => hd t rfl (by rw [hh])
        funext k
        simp only
        by_cases h1 : k = t
        · subst h1; simp [hne]
        · simp [h1]
  · cases bx with
    | none => rfl
    | some uc =>
      cases bx' with
      | none => rfl
      | some uc' =>
        obtain ⟨u, cs⟩ := uc
        obtain ⟨u', cs'⟩ := uc'
        have hne : u ≠ u' := hb u cs rfl u' cs' rfl
        funext k
        simp only
        by_cases h1 : k = u
        · subst h1; simp [hne]
        · simp [h1]
theorem gd_put {ops : Array Oper} {d : Option Nat} {s : Slot} {bx : Bx} (hne : ∀ d', d = some d' → d' ∉ o.looksAt ops) : gd ops o (e.put d s bx) = gd ops o e := by
  unfold gd
  cases hg : o.guard with
  | none => rfl
  | some jw =>
    obtain ⟨j, w⟩ := jw
    simp only
    cases ho : ops[j]? with
    | none => rfl
    | some o' =>
      simp only
      cases hd : o'.dst with
      | none => rfl
      | some t =>
        simp only
        have : (e.put d s bx).s t = e.s t := by
          cases d with
          | none => rfl
          | some d =>
            have : t ≠ d := fun hh => hne d rfl (by simp [Oper.looksAt, hg, ho, hd, hh])
            simp [Env.put, this]
        rw [this]
theorem looks_ne {ops : Array Oper} {d : Option Nat} (hne : ∀ d', d = some d' → d' ∉ o.looksAt ops) {y : Operand} (hy : y ∈ o.op.operands) : ∀ d', d = some d' → y ≠ .tmp d' := by
  intro d' hd hh
  refine hne d' hd ?_
  unfold Oper.looksAt
  refine List.mem_append.2 (.inl (List.mem_filterMap.2 ⟨y, Array.mem_toList_iff.2 hy, by rw [hh]⟩))
def clsOk : Cls → Cls → Bool
  | .P, _ => true
  | .L, .W => false
  | .L, _ => true
  | .R, .W => false
  | .R, .A => false
  | .R, _ => true
  | _, _ => false
structure Stab (P : Program) (S : Sig) (F : Fs) (ops : Array Oper) (o : Oper) (e : Env) (h : Heap) (s : Slot) (bx : Bx) : Prop where
  run : (gd ops o e = some true ∧ ∀ (h' : Heap) (K : Slot → Bx → Heap → Prop) (E : List PanicEntry → Heap → Prop), (cls F o = .R → h.le h') → K s bx h' → exec P S F true o e h' K E) ∨
    (gd ops o e = some false ∧ s = .v undef ∧ bx = none)
  fb : ∀ u cs, bx = some (u, cs) → o.dst = some u ∧ e.b u = none
  fs : ∀ u, s.refs u → (∃ y ∈ o.op.operands, (e.get y).refs u) ∨ ∃ cs, bx = some (u, cs)
theorem Stab.one {ops : Array Oper} {s : Slot} {bx : Bx} (st : Stab P S F ops o e h s bx) {K : Env → Heap → Prop} (hK : K (e.put o.dst s bx) h) : one P S F ops o e h K E := by
  unfold Vc.one
  rcases st.run with ⟨h1, h2⟩ | ⟨h1, rfl, rfl⟩
  · simp only [h1]; exact h2 h _ _ (fun _ => Heap.le_refl h) hK
  · simp only [h1]; exact hK
theorem front {ops : Array Oper} {K : Env → Heap → Prop} {i : Nat} {oi : Oper} (hi : ops[i]? = some oi) (hci : cls F oi = .P ∨ cls F oi = .L ∨ cls F oi = .R) {s : Slot} {bx : Bx} :
    ∀ (k : Nat) (listed : Array Bool) (e : Env) (h : Heap), WF e →
      (∀ j oj, ops[j]? = some oj → j ≠ i → listed.getD j true = false → (∀ d ∈ oj.after, Region.binds .any d = true → d.on ≠ i) → oi.apart ops oj = true ∧ clsOk (cls F oi) (cls F oj) = true) →
      i ∈ Region.ready .any ops listed → Stab P S F ops oi e h s bx →
      dAll P S F ops K E k (listed.setIfInBounds i true) (e.put oi.dst s bx) h → dAll P S F ops K E (k + 1) listed e h := by
  intro k
  induction k with
  | zero =>
    intro listed e h hw hfree hr st H
    refine ⟨fun h0 => (by rw [h0] at hr; cases hr), fun j hj => ?_⟩
    by_cases hji : j = i
    · subst hji; exact ⟨oi, hi, st.one H⟩
    · have := ready_mono hj hji
      rw [H.1] at this
      cases this
  | succ k ih =>
    intro listed e h hw hfree hr st H
    refine ⟨fun h0 => (by rw [h0] at hr; cases hr), fun j hj => ?_⟩
    by_cases hji : j = i
    · subst hji; exact ⟨oi, hi, st.one H⟩
    · obtain ⟨oj, hoj, h1⟩ := H.2 j (ready_mono hj hji)
      refine ⟨oj, hoj, ?_⟩
      obtain ⟨hjun, oj', hoj', hall⟩ := mem_ready.1 hj
      rw [hoj] at hoj'
      cases hoj'
      have hnot : ∀ d ∈ oj.after, Region.binds .any d = true → d.on ≠ i := fun d hd hb heq => by
        have h1 := hall d hd hb
        have h0 := (mem_ready.1 hr).1
        rw [heq] at h1
        rcases Nat.lt_or_ge i listed.size with h' | h'
        · simp [h'] at h0 h1; rw [h0] at h1; cases h1
        · simp [Array.getElem?_eq_none h'] at h1
      obtain ⟨hap, hcl⟩ := hfree j oj hoj hji hjun hnot
      obtain ⟨a1, a2, a3⟩ := Oper.apart_spec hap
      have hget : ∀ y ∈ oj.op.operands, (e.put oi.dst s bx).get y = e.get y := fun y hy => get_put (looks_ne a1 hy)
      have hgeti : ∀ (d : Option Nat) (s' : Slot) (bx' : Bx), d = oj.dst → ∀ y ∈ oi.op.operands, (e.put d s' bx').get y = e.get y := fun d s' bx' hd y hy => get_put (by rw [hd]; exact looks_ne a3 hy)
      have hfree' : ∀ k' ok, ops[k']? = some ok → k' ≠ i → (listed.setIfInBounds j true).getD k' true = false → (∀ d ∈ ok.after, Region.binds .any d = true → d.on ≠ i) → oi.apart ops ok = true ∧ clsOk (cls F oi) (cls F ok) = true := fun k' ok hk hki hun hno => by
        refine hfree k' ok hk hki ?_ hno
        by_cases hjk : j = k'
        · subst hjk; exact hjun
        · rw [getD_set_ne true hjk] at hun; exact hun
      have step : ∀ sj bxj h', dAll P S F ops K E k ((listed.setIfInBounds i true).setIfInBounds j true) ((e.put oi.dst s bx).put oj.dst sj bxj) h' → Res F oj (e.put oi.dst s bx) h sj bxj h' →
          dAll P S F ops K E (k + 1) (listed.setIfInBounds j true) (e.put oj.dst sj bxj) h' := by
        intro sj bxj h' hA hR
        have hbj : ∀ u cs, bxj = some (u, cs) → (oj.dst = some u ∧ e.b u = none) ∨ ((e.b u).isSome ∧ cls F oj = .W) := by
          intro u cs hh
          rcases hR.fb u cs hh with ⟨h1, h2⟩ | ⟨h1, y, hy, h2⟩
          · refine .inl ⟨h1, ?_⟩
            cases bx with
            | none => exact h2
            | some uc =>
              obtain ⟨u', cs'⟩ := uc
              by_cases hu : u = u'
              · subst hu; exact (st.fb u cs' rfl).2
              · rw [put_b (fun u'' cs'' hh' => by simp only [Option.some.injEq, Prod.mk.injEq] at hh'; rw [← hh'.1]; exact hu)] at h2; exact h2
          · rw [hget y hy] at h2; exact .inr ⟨hw.get h2, h1⟩
        have hdne : ∀ u cs, bxj = some (u, cs) → ∀ t, oi.dst = some t → e.b t = none → t ≠ u := by
          intro u cs hh t ht hb heq
          subst heq
          rcases hbj _ _ hh with ⟨h1, _⟩ | ⟨h1, _⟩
          · exact a2 t ht h1
          · rw [hb] at h1; cases h1
        have hw2 : WF (e.put oj.dst sj bxj) := wf_put hw fun u hu => by
          rcases hR.fs u hu with ⟨y, hy, hr'⟩ | hh
          · rw [hget y hy] at hr'; exact .inl (hw.get hr')
          · exact .inr hh
        have hag : Agree F oi e (e.put oj.dst sj bxj) := {
          get := hgeti _ _ _ rfl
          box := by
            rcases hci with hc | hc
            · exact .inl hc
            · right
              intro y hy u hu
              refine put_b fun u' cs' hh heq => ?_
              subst heq
              rcases hbj _ _ hh with ⟨_, h2⟩ | ⟨_, h2⟩
              · have := hw.get hu; rw [h2] at this; cases this
              · rw [h2] at hcl; rcases hc with hc | hc <;> rw [hc] at hcl <;> cases hcl
          dst := fun t ht hb => by rw [put_b (fun u' cs' hh => hdne u' cs' hh t ht hb)]; exact hb }
        refine ih _ _ _ hw2 hfree' (ready_mono hr (Ne.symm hji)) ?_ ?_
        · refine ⟨?_, fun u cs hh => ⟨(st.fb u cs hh).1, hag.dst u (st.fb u cs hh).1 (st.fb u cs hh).2⟩, fun u hu => ?_⟩
          · rcases st.run with ⟨g1, g2⟩ | ⟨g1, g2, g3⟩
            · refine .inl ⟨by rw [gd_put a3]; exact g1, fun h'' K' E' hle hk => ?_⟩
              have := g2 h'' K' E' (fun hc => ?_) hk
              · exact exec_step hag this (fun s bx h' hK _ => hK)
              · refine Heap.le_trans (hR.le ?_ ?_) (hle hc)
                · intro hc'; rw [hc, hc'] at hcl; cases hcl
                · intro hc'; rw [hc, hc'] at hcl; cases hcl
            · exact .inr ⟨by rw [gd_put a3]; exact g1, g2, g3⟩
          · rcases st.fs u hu with ⟨y, hy, hr'⟩ | hh
            · exact .inl ⟨y, hy, by rw [hag.get y hy]; exact hr'⟩
            · exact .inr hh
        · rw [Array.setIfInBounds_comm _ _ hji, put_comm (fun t ht => fun hh => a2 t hh ht) (fun u cs hu u' cs' hu' heq => ?_)]
          · exact hA
          · subst heq
            obtain ⟨g1, g2⟩ := st.fb _ _ hu'
            exact hdne _ _ hu _ g1 g2 rfl
      unfold one at h1 ⊢
      rw [gd_put a1] at h1
      split at h1
      · rename_i hg
        simp only [hg]
        refine exec_step (o := oj) (e := e.put oi.dst s bx) ⟨fun y hy => (hget y hy).symm, ?_, ?_⟩ h1 (fun sj bxj h' hA hR => step sj bxj h' hA hR)
        · right
          intro y hy u hu
          rw [hget y hy] at hu
          refine (put_b fun u' cs' hh heq => ?_).symm
          subst heq
          have := hw.get hu
          rw [(st.fb _ _ hh).2] at this
          cases this
        · intro t ht hb
          cases bx with
          | none => exact hb
          | some uc =>
            obtain ⟨u', cs'⟩ := uc
            by_cases hu : t = u'
            · subst hu; exact (st.fb t cs' rfl).2
            · rw [put_b (fun u'' cs'' hh' => by simp only [Option.some.injEq, Prod.mk.injEq] at hh'; rw [← hh'.1]; exact hu)] at hb; exact hb
      · rename_i hg
        simp only [hg]
        exact step _ _ _ h1 Res.plain
      · exact h1.elim
def planB (F : Fs) (ops : Array Oper) : List Nat → Array Bool → Bool
  | [], listed => (Region.ready .any ops listed).isEmpty
  | i :: r, listed => (Region.ready .any ops listed).contains i && (match ops[i]? with
    | none => false
    | some oi => ((match cls F oi with | .P => true | .L => true | .R => true | _ => false) && (List.range ops.size).all fun j => j == i || listed.getD j true || match ops[j]? with
        | some oj => (oj.after.any fun d => Region.binds .any d && d.on == i) || (oi.apart ops oj && clsOk (cls F oi) (cls F oj))
        | none => true) || Region.ready .any ops listed == [i]) && planB F ops r (listed.setIfInBounds i true)
theorem one_wf {ops : Array Oper} {K : Env → Heap → Prop} (hw : WF e) (hx : one P S F ops o e h K E) : one P S F ops o e h (fun e' h' => WF e' ∧ K e' h') E := by
  unfold one at hx ⊢
  split at hx
  · refine exec_step (e := e) ⟨fun _ _ => rfl, .inr fun _ _ _ _ => rfl, fun _ _ h => h⟩ hx (fun s bx h' hA hR => ⟨wf_put hw fun u hu => ?_, hA⟩)
    rcases hR.fs u hu with ⟨y, hy, hr⟩ | hh
    · exact .inl (hw.get hr)
    · exact .inr hh
  · exact ⟨wf_put hw fun u hu => hu.elim, hx⟩
  · exact hx.elim
theorem one_mono {ops : Array Oper} {K K' : Env → Heap → Prop} (hx : one P S F ops o e h K E) (hk : ∀ e' h', K e' h' → K' e' h') : one P S F ops o e h K' E := by
  unfold one at hx ⊢
  split at hx
  · exact exec_step (e := e) ⟨fun _ _ => rfl, .inr fun _ _ _ _ => rfl, fun _ _ h => h⟩ hx (fun s bx h' hA _ => hk _ _ hA)
  · exact hk _ _ hx
  · exact hx.elim
theorem one_stab {ops : Array Oper} {K : Env → Heap → Prop} (hc : cls F o = .P ∨ cls F o = .L ∨ cls F o = .R) (hx : one P S F ops o e h K E) : ∃ s bx, Stab P S F ops o e h s bx ∧ K (e.put o.dst s bx) h := by
  unfold one at hx
  split at hx
  · rename_i hg
    have hres := exec_step (e := e) ⟨fun _ _ => rfl, .inr fun _ _ _ _ => rfl, fun _ _ h => h⟩ hx (fun s bx h' hA hR => (⟨hA, hR⟩ : K (e.put o.dst s bx) h' ∧ Res F o e h s bx h'))
    have hfb : ∀ s bx, Res F o e h s bx h → ∀ u cs, bx = some (u, cs) → o.dst = some u ∧ e.b u = none := by
      intro s bx hR u cs hh
      rcases hR.fb u cs hh with h1 | ⟨h1, _⟩
      · exact h1
      · rcases hc with hc | hc | hc <;> rw [hc] at h1 <;> cases h1
    by_cases hc' : cls F o = .R
    · have hload : ∃ s, (K (e.put o.dst s none) h ∧ Res F o e h s none h) ∧ ∀ (h' : Heap) (K' : Slot → Bx → Heap → Prop) (E' : List PanicEntry → Heap → Prop), h.le h' → K' s none h' → exec P S F true o e h' K' E' := by
        obtain ⟨dst, op, ty, pos, after, guard⟩ := o
        cases op with
        | load t y =>
          have hl : inL F.LL dst = false := by
            simp only [cls] at hc'
            split at hc'
            · cases hc'
            · assumption
          simp only [exec] at hres ⊢
          split at hres
          · rename_i ti hti
            simp only [hl] at hres
            obtain ⟨s, h1, h2⟩ := load_fun hres
            exact ⟨s, h1, fun h' K' E' hle hk => by simp only [hl]; exact h2 h' K' hle hk⟩
          · exact hres.elim
        | call c =>
          obtain ⟨callee, args, ts⟩ := c
          cases callee with
          | value f => simp only [cls] at hc'; split at hc' <;> cases hc'
          | invoke r m => cases hc'
          | builtin b => cases b <;> cases hc'
        | alloc t => simp only [cls] at hc'; split at hc' <;> cases hc'
        | box t y => simp only [cls] at hc'; split at hc' <;> cases hc'
        | buildSlice t k ps => simp only [cls] at hc'; split at hc' <;> cases hc'
        | _ => cases hc'
      obtain ⟨s, ⟨h1, h2⟩, h3⟩ := hload
      exact ⟨s, none, ⟨.inl ⟨hg, fun h' K' E' hle hk => h3 h' K' E' (hle hc') hk⟩, hfb _ _ h2, h2.fs⟩, h1⟩
    · obtain ⟨s, bx, ⟨h1, h2⟩, h3⟩ := exec_fun (by rcases hc with hc | hc | hc
                                                   · exact .inl hc
                                                   · exact .inr hc
                                                   · exact absurd hc hc') hres
      exact ⟨s, bx, ⟨.inl ⟨hg, fun h' K' E' _ hk => h3 h' K' E' hk⟩, hfb _ _ h2, h2.fs⟩, h1⟩
  · rename_i hg
    exact ⟨_, _, ⟨.inr ⟨hg, rfl, rfl⟩, (fun _ _ hh => by cases hh), fun _ hh => hh.elim⟩, hx⟩
  · exact hx.elim
def nextB (F : Fs) (ops : Array Oper) (i : Nat) (listed : Array Bool) : Bool :=
  (Region.ready .any ops listed).contains i && (match ops[i]? with
    | none => false
    | some oi => ((match cls F oi with | .P => true | .L => true | .R => true | _ => false) && (List.range ops.size).all fun j => j == i || listed.getD j true || match ops[j]? with
        | some oj => (oj.after.any fun d => Region.binds .any d && d.on == i) || (oi.apart ops oj && clsOk (cls F oi) (cls F oj))
        | none => true) || Region.ready .any ops listed == [i])
theorem step_sound {ops : Array Oper} {K : Env → Heap → Prop} {i : Nat} {oi : Oper} {k : Nat} {listed : Array Bool} {e : Env} {h : Heap} (hn : nextB F ops i listed = true) (hi : ops[i]? = some oi) (hw : WF e)
    (hx : oneOp P S F true ops.toList oi e h (fun e' h' => WF e' → dAll P S F ops K E k (listed.setIfInBounds i true) e' h') E) : dAll P S F ops K E (k + 1) listed e h := by
  simp only [nextB, Bool.and_eq_true, hi] at hn
  obtain ⟨h1, h2⟩ := hn
  have hr : i ∈ Region.ready .any ops listed := by simpa using h1
  have hx := one_wf hw (oneOp_one.1 hx)
  have hx := one_mono hx (fun e' h' hh => hh.2 hh.1)
  simp only [Bool.or_eq_true] at h2
  rcases h2 with h2 | h2
  · simp only [Bool.and_eq_true] at h2
    obtain ⟨h4, h5⟩ := h2
    have hc : cls F oi = .P ∨ cls F oi = .L ∨ cls F oi = .R := by
      revert h4
      cases cls F oi <;> simp
    obtain ⟨s, bx, st, hK⟩ := one_stab hc hx
    refine front hi hc k listed e h hw (fun j oj hj hne hun hno => ?_) hr st hK
    have hlt : j < ops.size := (Array.getElem?_eq_some_iff.1 hj).1
    have := List.all_eq_true.1 h5 j (by simpa using hlt)
    simp only [hj, Bool.or_eq_true, hun] at this
    rcases this with (h6 | h6) | h6
    · exact absurd (by simpa using h6) hne
    · cases h6
    · rcases h6 with h6 | h6
      · exfalso
        obtain ⟨k, hk, hd⟩ := Array.any_eq_true.1 h6
        simp only [Bool.and_eq_true] at hd
        exact hno _ (Array.getElem_mem hk) hd.1 (by simpa using hd.2)
      · simpa using h6
  · have hre : Region.ready .any ops listed = [i] := by simpa using h2
    refine ⟨fun h0 => (by rw [hre] at h0; cases h0), fun j hj => ?_⟩
    rw [hre] at hj
    simp only [List.mem_singleton] at hj
    subst hj
    exact ⟨oi, hi, hx⟩
theorem plan_sound {ops : Array Oper} {K : Env → Heap → Prop} : ∀ (p : List Nat) (listed : Array Bool) (e : Env) (h : Heap), planB F ops p listed = true → WF e → wops P S F true ops.toList K E p e h → dAll P S F ops K E p.length listed e h
  | [], listed, e, h, hp, _, hx => ⟨by simpa [planB] using hp, hx⟩
  | i :: r, listed, e, h, hp, hw, hx => by
    simp only [planB, Bool.and_eq_true] at hp
    obtain ⟨⟨h1, h2⟩, h3⟩ := hp
    simp only [wops, nth_eq, Array.getElem?_toList] at hx
    cases hi : ops[i]? with
    | none => rw [hi] at hx; exact hx.elim
    | some oi =>
      simp only [hi] at hx
      refine step_sound (by unfold nextB; rw [h1]; exact h2) hi hw (oneOp_one.2 (one_mono (oneOp_one.1 hx) fun e' h' hh hw' => plan_sound r (listed.setIfInBounds i true) e' h' h3 hw' hh))
def PT.heads : PT → List Nat
  | .alt i _ r => i :: r.heads
  | _ => []
def planT (F : Fs) (ops : Array Oper) : PT → Bool → Nat → Array Bool → Bool
  | .nil, c, k, listed => !c && k == 0 && (Region.ready .any ops listed).isEmpty
  | .non, c, _, _ => c
  | .one i r, c, k, listed => !c && (match k with
    | 0 => false
    | k + 1 => nextB F ops i listed && planT F ops r false k (listed.setIfInBounds i true))
  | .alt i t r, c, k, listed => (match k with
    | 0 => false
    | k + 1 => (c || (!(Region.ready .any ops listed).isEmpty && (Region.ready .any ops listed).all fun j => (i :: r.heads).contains j)) && planT F ops t false k (listed.setIfInBounds i true) && planT F ops r true (k + 1) listed)
theorem tree_sound {ops : Array Oper} {K : Env → Heap → Prop} : ∀ (p : PT),
    (∀ (k : Nat) (listed : Array Bool) (e : Env) (h : Heap), planT F ops p false k listed = true → WF e → wtree P S F ops.toList K E p e h → dAll P S F ops K E k listed e h) ∧
    (∀ (k : Nat) (listed : Array Bool) (e : Env) (h : Heap), planT F ops p true (k + 1) listed = true → WF e → wtree P S F ops.toList K E p e h → ∀ i ∈ p.heads, ∃ o, ops[i]? = some o ∧ one P S F ops o e h (fun e' h' => dAll P S F ops K E k (listed.setIfInBounds i true) e' h') E)
  | .nil => by
    refine ⟨fun k listed e h hp hw hx => ?_, fun k listed e h hp hw hx i hi => ?_⟩
    · simp only [planT, Bool.and_eq_true] at hp
      have hk : k = 0 := by simpa using hp.1.2
      subst hk
      exact ⟨by simpa using hp.2, hx⟩
    · simp [PT.heads] at hi
  | .non => by
    refine ⟨fun k listed e h hp hw hx => ?_, fun k listed e h hp hw hx i hi => ?_⟩
    · simp [planT] at hp
    · simp [PT.heads] at hi
  | .one i r => by
    refine ⟨fun k listed e h hp hw hx => ?_, fun k listed e h hp hw hx j hj => ?_⟩
    · simp only [planT, Bool.and_eq_true] at hp
      cases k with
      | zero => simp at hp
      | succ k =>
        simp only [Bool.and_eq_true] at hp
        obtain ⟨_, h1, h3⟩ := hp
        simp only [wtree, nth_eq, Array.getElem?_toList] at hx
        cases hi : ops[i]? with
        | none => rw [hi] at hx; exact hx.elim
        | some oi =>
          simp only [hi] at hx
          exact step_sound h1 hi hw (oneOp_one.2 (one_mono (oneOp_one.1 hx) fun e' h' hh hw' => (tree_sound r).1 k _ e' h' h3 hw' hh))
    · simp [PT.heads] at hj
  | .alt i t r => by
    have key : ∀ (c : Bool) (k : Nat) (listed : Array Bool) (e : Env) (h : Heap), planT F ops (.alt i t r) c (k + 1) listed = true → WF e → wtree P S F ops.toList K E (.alt i t r) e h → ∀ j ∈ (PT.alt i t r).heads, ∃ o, ops[j]? = some o ∧ one P S F ops o e h (fun e' h' => dAll P S F ops K E k (listed.setIfInBounds j true) e' h') E := by
      intro c k listed e h hp hw hx j hj
      simp only [planT, Bool.and_eq_true] at hp
      obtain ⟨⟨_, h2⟩, h3⟩ := hp
      simp only [wtree, nth_eq, Array.getElem?_toList] at hx
      simp only [PT.heads, List.mem_cons] at hj
      rcases hj with rfl | hj
      · have hx := hx.1
        cases hi : ops[j]? with
        | none => rw [hi] at hx; exact hx.elim
        | some oi =>
          simp only [hi] at hx
          exact ⟨oi, rfl, one_mono (one_wf hw (oneOp_one.1 hx)) fun e' h' hh => (tree_sound t).1 k _ e' h' h2 hh.1 hh.2⟩
      · exact (tree_sound r).2 k listed e h h3 hw hx.2 j hj
    refine ⟨fun k listed e h hp hw hx => ?_, fun k listed e h hp hw hx => key true k listed e h hp hw hx⟩
    cases k with
    | zero => simp [planT] at hp
    | succ k =>
      have hk := key false k listed e h hp hw hx
      simp only [planT, Bool.and_eq_true, Bool.false_or] at hp
      obtain ⟨⟨⟨h0, h1⟩, _⟩, _⟩ := hp
      refine ⟨fun he => (by rw [he] at h0; simp at h0), fun j hj => hk j ?_⟩
      have := List.all_eq_true.1 h1 j hj
      simpa [PT.heads] using this
def Code.plansB (F : Fs) : Code → Bool
  | .region id ops dr => match dr with
    | true => match planOf id F.plans with
      | some p => p.length == ops.size && planB F ops p (Array.replicate ops.size false)
      | none => match treeOf id F.trees with
        | some t => planT F ops t false ops.size (Array.replicate ops.size false)
        | none => true
    | false => true
  | .seq a b => Code.plansB F a && Code.plansB F b
  | .cond _ a b => Code.plansB F a && Code.plansB F b
  | .block _ c => Code.plansB F c
  | .loop c => Code.plansB F c
  | .scope c => Code.plansB F c
  | _ => true
theorem drawsOk_of {n : Nat} (hS : SigOk P S) : ∀ c : Code, Code.dstOk n c = true → Code.plansB F c = true → Code.drawsOk P S F n c := by
  intro c
  induction c with
  | region id ops dr =>
    intro hd hp
    cases dr with
    | false => trivial
    | true =>
      intro D K E Q h0 w0 β e h a w hx r hk hE
      unfold drawn at hx
      simp only [Code.plansB] at hp
      split at hx
      · rename_i p hpl
        simp only [hpl, Bool.and_eq_true] at hp
        have hl : p.length = ops.size := by simpa using hp.1
        have := plan_sound p _ e h hp.2 r.wf hx
        rw [hl] at this
        exact dAll_sound hS (dst_of hd) hk hE _ _ _ _ _ _ _ this r
      · rename_i hpl
        simp only [hpl] at hp
        split at hx
        · rename_i t htl
          simp only [htl] at hp
          exact dAll_sound hS (dst_of hd) hk hE _ _ _ _ _ _ _ ((tree_sound t).1 _ _ e h hp r.wf hx) r
        · exact hx.elim
  | seq a b iha ihb =>
    intro hd hp
    simp only [Code.dstOk, Code.plansB, Bool.and_eq_true] at hd hp
    exact ⟨iha hd.1 hp.1, ihb hd.2 hp.2⟩
  | cond c a b iha ihb =>
    intro hd hp
    simp only [Code.dstOk, Code.plansB, Bool.and_eq_true] at hd hp
    exact ⟨iha hd.1 hp.1, ihb hd.2 hp.2⟩
  | block id c ih => exact fun hd hp => ih hd hp
  | loop c ih => exact fun hd hp => ih hd hp
  | scope c ih => exact fun hd hp => ih hd hp
  | _ => intro _ _; trivial
def fnOk (F : Fs) (fn : Func) (k : Nat) : Bool := match fn.body with
  | some c => Nat.ble k fn.ntmps && Code.dstOk fn.ntmps c && Code.plansB F c
  | none => false
def Goal (P : Program) (S : Sig) (F : Fs) (fn : Func) (args : List Value) (h : Heap) (R : Out → Heap → Prop) : Prop := match fn.body with
  | some c => den P S F c (Fin S fn.results.toList R) (startEnv args) h
  | none => False
theorem calls {S : Sig} (hS : SigOk P S) {f : FuncId} {fn : Func} (hf : P.funcs[f]? = some fn) (F : Fs) {args : List Value} (hok : fnOk F fn args.length = true) {h : Heap} {R : Out → Heap → Prop} (hx : Goal P S F fn args h R) : CallsH P f args h R := by
  unfold fnOk at hok
  unfold Goal at hx
  cases hb : fn.body with
  | none => rw [hb] at hok; cases hok
  | some c =>
    simp only [hb, Bool.and_eq_true] at hok hx
    exact calls_of_den hS F hf hb (Nat.le_of_ble_eq_true hok.1.1) hok.1.2 (drawsOk_of hS c hok.1.2 hok.2) hx
end Go.Vc
namespace Go.Vc
open Go.RowKit
set_option linter.constructorNameAsVariable false
def Rets (P : Program) (f : FuncId) (args : List Value) (h : Heap) (R : Value → Heap → Prop) : Prop :=
  CallsH P f args h fun o h' => match o with
    | .ret v => R v h'
    | .pan _ => False
def Pure (P : Program) (f : FuncId) (args : List Value) (h : Heap) (x : Value) : Prop := Rets P f args h fun v h' => v = x ∧ h' = h
variable {P : Program} {f : FuncId} {args : List Value} {h : Heap} {K : Value → Heap → Prop} {E : List PanicEntry → Heap → Prop} {R : Value → Heap → Prop} {w : World}
theorem call_r (hc : Rets P f args h R) (hk : ∀ v h', R v h' → K v h') : Call P f args h K E := by
  rw [Call_def]; unfold Call_
  refine CallsH.mono hc fun o h' hh => ?_
  cases o with
  | ret v => exact hk v h' hh
  | pan c => exact hh.elim
theorem callX_r (hc : Rets P f args h R) (hk : ∀ v h', R v h' → h.le h' ∧ K v h') : CallX P f args h K E := by
  rw [CallX_def]; unfold CallX_
  refine CallsH.mono hc fun o h' hh => ?_
  cases o with
  | ret v => exact hk v h' hh
  | pan c => exact hh.elim
theorem call_o {R : Out → Heap → Prop} (hc : CallsH P f args h R) (hk : ∀ v h', R (.ret v) h' → K v h') (he : ∀ c h', R (.pan c) h' → E c h') : Call P f args h K E := by
  rw [Call_def]; unfold Call_
  refine CallsH.mono hc fun o h' hh => ?_
  cases o with
  | ret v => exact hk v h' hh
  | pan c => exact he c h' hh
theorem callX_o {R : Out → Heap → Prop} (hc : CallsH P f args h R) (hk : ∀ v h', R (.ret v) h' → h.le h' ∧ K v h') (he : ∀ c h', R (.pan c) h' → E c h') : CallX P f args h K E := by
  rw [CallX_def]; unfold CallX_
  refine CallsH.mono hc fun o h' hh => ?_
  cases o with
  | ret v => exact hk v h' hh
  | pan c => exact he c h' hh
theorem outs {S : Sig} (hS : SigOk P S) {fn : Func} (hf : P.funcs[f]? = some fn) (F : Fs) {k : Nat} (hok : fnOk F fn k = true) {R : Out → Heap → Prop} (hl : args.length = k) (hx : Goal P S F fn args h R) : CallsH P f args h R := by
  subst hl; exact calls hS hf F hok hx
theorem call_p {x : Value} (hc : Pure P f args h x) (hk : K x h) : Call P f args h K E := call_r hc (by rintro v h' ⟨rfl, rfl⟩; exact hk)
theorem callX_p {x : Value} (hc : Pure P f args h x) (hk : K x h) : CallX P f args h K E := callX_r hc (by rintro v h' ⟨rfl, rfl⟩; exact ⟨Heap.le_refl _, hk⟩)
theorem Rets.mono {R' : Value → Heap → Prop} (hc : Rets P f args h R) (hr : ∀ v h', R v h' → R' v h') : Rets P f args h R' :=
  CallsH.mono hc fun o h' hh => by
    cases o with
    | ret v => exact hr v h' hh
    | pan c => exact hh.elim
theorem rets {S : Sig} (hS : SigOk P S) {fn : Func} (hf : P.funcs[f]? = some fn) (F : Fs) {k : Nat} (hok : fnOk F fn k = true) (hl : args.length = k) (hx : Goal P S F fn args h fun o h' => match o with
    | .ret v => R v h'
    | .pan _ => False) : Rets P f args h R := by
  subst hl; exact calls hS hf F hok hx
theorem CallsH.shrink {R R' : Out → Heap → Prop} (hc : CallsH P f args h R) (hr : ∀ o h', R o h' → ∃ h'' : Heap, h''.le h' ∧ R' o h'') : CallsH P f args h R' := by
  intro w hv
  refine (hc w hv).mono ?_
  rintro e w' ⟨h', m, hm⟩
  have key : ∀ o, R o h' → ∃ h'' : Heap, Moves h w h'' w' ∧ R' o h'' := by
    intro o ho
    obtain ⟨h'', hl, hR⟩ := hr o h' ho
    refine ⟨h'', ⟨fun b x hb => m.view b x (hl b x hb), m.keep, fun b hb => m.dom b ?_, m.size, m.out⟩, hR⟩
    cases hh : h'' b with
    | none => exact absurd hh hb
    | some x => rw [hl b x hh]; simp
  cases e with
  | returned v => exact key _ hm
  | panicked c => exact key _ hm
  | outgrown => exact ⟨h', m, hm⟩
theorem retsL {S : Sig} (hS : SigOk P S) {fn : Func} (hf : P.funcs[f]? = some fn) (F : Fs) {k : Nat} (hok : fnOk F fn k = true) (hl : args.length = k) (hx : Goal P S F fn args h fun o h' => match o with
    | .ret v => ∃ h'' : Heap, h''.le h' ∧ R v h''
    | .pan _ => False) : Rets P f args h R := by
  subst hl
  refine (calls hS hf F hok hx).shrink fun o h' hh => ?_
  cases o with
  | ret v => exact hh
  | pan c => exact hh.elim
theorem pur {S : Sig} (hS : SigOk P S) {fn : Func} (hf : P.funcs[f]? = some fn) (F : Fs) {k : Nat} (hok : fnOk F fn k = true) {x : Value} (hl : args.length = k) (hx : Goal P S F fn args h fun o h' => match o with
    | .ret v => v = x ∧ h' = h
    | .pan _ => False) : Pure P f args h x := by
  subst hl; exact calls hS hf F hok hx
theorem purL {S : Sig} (hS : SigOk P S) {fn : Func} (hf : P.funcs[f]? = some fn) (F : Fs) {k : Nat} (hok : fnOk F fn k = true) {x : Value} (hl : args.length = k) (hx : Goal P S F fn args h fun o h' => match o with
    | .ret v => v = x ∧ h.le h'
    | .pan _ => False) : Pure P f args h x := by
  subst hl
  unfold Pure Rets
  refine (calls hS hf F hok hx).shrink fun o h' hh => ?_
  cases o with
  | ret v => exact ⟨h, hh.2, hh.1, rfl⟩
  | pan c => exact hh.elim
theorem selP {p : Prop} {_ : Decidable p} {t f : Prop} (ht : p → t) (hf : ¬ p → f) : @Bool.rec (fun _ => Prop) f t (decide p) := by
  by_cases h : p
  · rw [decide_eq_true h]; exact ht h
  · rw [decide_eq_false h]; exact hf h
theorem selNP {p : Prop} {_ : Decidable p} {t f : Prop} (ht : ¬ p → t) (hf : p → f) : @Bool.rec (fun _ => Prop) f t (!decide p) := by
  by_cases h : p
  · rw [decide_eq_true h]; exact hf h
  · rw [decide_eq_false h]; exact ht h
theorem selB {b : Bool} {t f : Prop} (ht : b = true → t) (hf : b = false → f) : @Bool.rec (fun _ => Prop) f t b := by
  cases b
  · exact hf rfl
  · exact ht rfl
theorem selNB {b : Bool} {t f : Prop} (ht : b = false → t) (hf : b = true → f) : @Bool.rec (fun _ => Prop) f t (!b) := by
  cases b
  · exact ht rfl
  · exact hf rfl
theorem wrap_i64 {x : Int} (h0 : -9223372036854775808 ≤ x) (h1 : x ≤ 9223372036854775807) : IntKind.i64.wrap x = x := by
  simp [IntKind.wrap, IntKind.bits, IntKind.signed]; omega
theorem ar_in {x : Int} {K : Int → Prop} (h0 : -9223372036854775808 ≤ x) (h1 : x ≤ 9223372036854775807) (hk : K x) : Ar .i64 x K := by
  rw [ar_iff, wrap_i64 h0 h1]; exact hk
theorem ar_any {k : IntKind} {x : Int} {K : Int → Prop} (hk : K (k.wrap x)) : Ar k x K := ar_iff.2 hk
theorem ob {p q : Prop} (hp : p) (hq : q) : Ob p q := ob_iff.2 ⟨hp, hq⟩
theorem ld {b off : Nat} {v : Value} {K : Value → Prop} (hr : rd h b off = some v) (hk : K v) : Ld h b off K := by rw [Ld_def]; unfold Ld_; exact ⟨v, hr, hk⟩
theorem ldn {b off n : Nat} {vs : List Value} {K : List Value → Prop} (hr : rdn h b off n = some vs) (hk : K vs) : LdN h b off n K := by rw [LdN_def]; unfold LdN_; exact ⟨vs, hr, hk⟩
theorem ptr {b off : Nat} {K : Nat → Nat → Prop} (hk : K b off) : Ptr (some ⟨b, off, none⟩) K := by rw [Ptr_def]; unfold Ptr_; exact ⟨b, off, rfl, hk⟩
theorem ptr' {p : Option Addr} {b off : Nat} {K : Nat → Nat → Prop} (hp : p = some ⟨b, off, none⟩) (hk : K b off) : Ptr p K := by rw [Ptr_def]; unfold Ptr_; exact ⟨b, off, hp, hk⟩
theorem st {b off : Nat} {vs : List Value} {K : Heap → Prop} {cs : List Value} {t : TypeId} (hb : h b = some (.cells cs.toArray t (0, 0))) (hl : off + vs.length ≤ cs.length) (hk : K (h.set b (.cells (wrls cs off vs).toArray t (0, 0)))) : St h b off vs K := by
  rw [St_def]; unfold St_; exact ⟨cs.toArray, t, hb, by simpa using hl, hk⟩
theorem new {cs : List Value} {t : TypeId} {K : Nat → Heap → Prop} (hk : ∀ b, h b = none → K b (h.set b (.cells cs.toArray t))) : New h cs t K := by rw [New_def]; unfold New_; exact hk
theorem lp {body : (Ex → Env → Heap → Prop) → Env → Heap → Prop} {K : Ex → Env → Heap → Prop} {e : Env} (ls bs : List Nat) (Inv : Nat → List Slot → List (Option (List Value)) → Heap → Prop) (n : Nat) (h0 : Inv n (ls.map e.s) (bs.map e.b) h)
    (hs : ∀ n vs cs h, Inv n vs cs h → body (fun x e' h' => match x with | .normal => ∃ m, m < n ∧ Inv m (ls.map e'.s) (bs.map e'.b) h' | .exit i => K (.exit i) e' h' | .ret => K .ret e' h' | .pan c => K (.pan c) e' h') (envIn ls bs vs cs) h) : Lp body K e h := by
  rw [Lp_def]; unfold Lp_; exact ⟨ls, bs, Inv, ⟨n, h0⟩, hs⟩
theorem lps {σ : Type} {body : (Ex → Env → Heap → Prop) → Env → Heap → Prop} {K : Ex → Env → Heap → Prop} {e : Env} (ls bs : List Nat) (St : σ → Prop) (m : σ → Nat) (f : σ → List Slot × List (Option (List Value)) × Heap) (s0 : σ)
    (h0 : St s0) (hf : f s0 = (ls.map e.s, bs.map e.b, h))
    (hs : ∀ s, St s → body (fun x e' h' => match x with | .normal => ∃ k, k < m s ∧ ∃ s', St s' ∧ m s' = k ∧ f s' = (ls.map e'.s, bs.map e'.b, h') | .exit i => K (.exit i) e' h' | .ret => K .ret e' h' | .pan c => K (.pan c) e' h') (envIn ls bs (f s).1 (f s).2.1) (f s).2.2) : Lp body K e h := by
  refine lp ls bs (fun n vs cs h' => ∃ s, St s ∧ m s = n ∧ f s = (vs, cs, h')) (m s0) ⟨s0, h0, rfl, hf⟩ ?_
  rintro n vs cs h' ⟨s, h1, rfl, h2⟩
  have := hs s h1
  rw [h2] at this
  exact this
theorem lpn {σ : Type} {St : σ → Prop} {m : σ → Nat} {f : σ → List Slot × List (Option (List Value)) × Heap} {t : List Slot × List (Option (List Value)) × Heap} {n : Nat} (s' : σ) (h1 : St s') (h2 : m s' < n) (h3 : f s' = t) : ∃ k, k < n ∧ ∃ s', St s' ∧ m s' = k ∧ f s' = t := ⟨_, h2, s', h1, rfl, h3⟩
theorem raw_v {o : Oper} {e : Env} {Kr : Value → Heap → Prop} {v : Value} (hv : ∀ x ∈ o.op.operands, ∃ v, e.get x = .v v)
    (hr : ∀ ρ : Operand → Value, (∀ x ∈ o.op.operands, e.get x = .v (ρ x)) → ∀ w : World, (execOp ρ o).run P w = .ok (.value v) w) (hk : Kr v h) : Raw P o e h Kr := by
  rw [Raw_def]; unfold Raw_
  exact ⟨hv, fun ρ hρ w hw => ⟨v, w, h, .inl (hr ρ hρ w), Moves.refl hw, hk⟩⟩
theorem raw_ta {dst : Option Nat} {x : Operand} {xt at_ : TypeId} {ok : Bool} {ty : TypeId} {pos : String} {af : Array Edge} {g : Option (Nat × Bool)} {e : Env} {Kr : Value → Heap → Prop} {c r : Value}
    (hx : e.get x = .v c) (hr : ∀ w : World, (Instr.typeAssert c xt at_ ok).run P w = .ok r w) (hk : Kr r h) : Raw P ⟨dst, .typeAssert x xt at_ ok, ty, pos, af, g⟩ e h Kr := by
  refine raw_v (v := r) ?_ ?_ hk
  · intro y hy
    simp only [Op.operands, List.mem_toArray, List.mem_cons, List.not_mem_nil, or_false] at hy
    subst hy
    exact ⟨c, hx⟩
  · intro ρ hρ w
    have h1 := hρ x (by simp [Op.operands])
    rw [hx] at h1
    injection h1 with h1
    simp only [execOp, ← h1]
    simp only [Sem.run_bind, hr, Result.andThen_ok, Sem.run_pure]
theorem raw_eq {dst : Option Nat} {op : BinOp} {t u : TypeId} {x y : Operand} {ty : TypeId} {pos : String} {af : Array Edge} {g : Option (Nat × Bool)} {e : Env} {Kr : Value → Heap → Prop} {a b r : Value}
    (hx : e.get x = .v a) (hy : e.get y = .v b) (h1 : ∀ w : World, (eqGuard op t x y a b).run P w = .ok () w) (h2 : ∀ w : World, (Go.binOp op t a b).run P w = .ok r w) (hk : Kr r h) : Raw P ⟨dst, .binOp op t x y u, ty, pos, af, g⟩ e h Kr := by
  refine raw_v (v := r) ?_ ?_ hk
  · intro z hz
    simp only [Op.operands, List.mem_toArray, List.mem_cons, List.not_mem_nil, or_false] at hz
    rcases hz with rfl | rfl
    · exact ⟨a, hx⟩
    · exact ⟨b, hy⟩
  · intro ρ hρ w
    have e1 := hρ x (by simp [Op.operands])
    have e2 := hρ y (by simp [Op.operands])
    rw [hx] at e1
    rw [hy] at e2
    injection e1 with e1
    injection e2 with e2
    simp only [execOp, ← e1, ← e2]
    simp only [Sem.run_bind, h1, h2, Result.andThen_ok, Sem.run_pure]
theorem below_of_pure {x : Value} (hc : ∀ h, (∀ b o, h b = some o → (w.heap[b]? = some o)) → (∀ b, h b = w.heap[b]?) → Pure P f args h x) : Calls P f args.toArray w fun e w' => e = .returned x ∧ Below w.heap.size w w' := by
  refine (hc (fun b => w.heap[b]?) (fun _ _ h => h) (fun _ => rfl) w (fun _ _ h => h)).mono ?_
  rintro e w' ⟨h', m, hm⟩
  cases e with
  | returned v =>
    obtain ⟨rfl, rfl⟩ := hm
    refine ⟨rfl, m.out.1, m.out.2.1, m.out.2.2, m.size, fun b hb => ?_⟩
    rw [Array.getElem?_eq_getElem hb]
    exact m.view b _ (Array.getElem?_eq_getElem hb)
  | panicked c => exact hm.elim
  | outgrown => exact hm.elim
theorem rd_set {b off : Nat} {cs : Array Value} {t : TypeId} {fz : Nat × Nat} : rd (h.set b (.cells cs t fz)) b off = cs[off]? := by simp [rd, Heap.set]
theorem rd_ne {b c off : Nat} {o : Obj} (hne : b ≠ c) : rd (h.set c o) b off = rd h b off := by simp [rd, Heap.set, hne]
end Go.Vc
namespace Go.Vc
set_option linter.constructorNameAsVariable false
def entsFrom : Nat → List (Int × Value) → List MapEntry
  | _, [] => []
  | n, (k, v) :: r => ⟨.int .i64 k, v, n⟩ :: entsFrom (n + 1) r
def mapO (l : List (Int × Value)) : Obj := .map (entsFrom 0 l).toArray l.length
def findI (k : Int) : List (Int × Value) → Nat → Option (Nat × Value)
  | [], _ => none
  | (j, v) :: r, i => if k = j then some (i, v) else findI k r (i + 1)
theorem findNow_ents (k : Int) : ∀ (l : List (Int × Value)) (n i : Nat), Instr.findNow (.int .i64) (.int .i64 k) (entsFrom n l) i = some (findI k l i)
  | [], n, i => rfl
  | (j, v) :: r, n, i => by
    rw [entsFrom, Instr.findNow, findI]
    by_cases h : k = j
    · subst h; simp [Instr.sameNow]
    · have : (k == j) = false := by simp [h]
      simp [Instr.sameNow, this, h, findNow_ents k r]
theorem entsFrom_push (k : Int) (v : Value) : ∀ (l : List (Int × Value)) (n : Nat), entsFrom n (l ++ [(k, v)]) = entsFrom n l ++ [⟨.int .i64 k, v, n + l.length⟩]
  | [], n => rfl
  | (j, x) :: r, n => by
    simp only [List.cons_append, entsFrom, entsFrom_push k v r, List.length_cons]
    rw [show n + 1 + r.length = n + (r.length + 1) by omega]
theorem fresh_none {h : Heap} {w : World} (hv : ∀ b o, h b = some o → w.heap[b]? = some o) : h w.heap.size = none := by
  cases hh : h w.heap.size with
  | none => rfl
  | some o => have := heap_lt (hv _ _ hh); omega
theorem set_set (h : Heap) (b : Nat) (o o' : Obj) : (h.set b o).set b o' = h.set b o' := by
  funext c; simp only [Heap.set]; split <;> rfl
theorem run_checkKey {P : Program} {kt : TypeId} (h2 : ∀ w : World, (underlying kt).run P w = .ok (.int .i64) w) (n : Int) (q : Bool) (w : World) : (Instr.checkKey q 10000 kt (.int .i64 n)).run P w = .ok () w := by
  have g : ∀ k, (Instr.checkKey q (k + 1) kt (.int .i64 n)).run P w = .ok () w := by
    intro k
    simp only [Instr.checkKey, Sem.run_bind, h2, Result.andThen_ok]
    rfl
  exact g 9999
variable {P : Program} {h : Heap} {e : Env} {Kr : Value → Heap → Prop} {dst : Option Nat} {ty t kt et : TypeId} {pos : String} {af : Array Edge} {g : Option (Nat × Bool)} {m k x : Operand} {b : Nat} {n : Int} {l : List (Int × Value)} {v : Value}
theorem raw_mm (hk : ∀ b, h b = none → Kr (.map (some b)) (h.set b (mapO []))) : Raw P ⟨dst, .makeMap t none, ty, pos, af, g⟩ e h Kr := by
  rw [Raw_def]; unfold Raw_
  refine ⟨fun y hy => by simp [Op.operands] at hy, fun ρ hρ w hw => ?_⟩
  refine ⟨.map (some w.heap.size), _, _, .inl ?_, Moves.push hw _, hk _ (fresh_none hw)⟩
  simp only [execOp, Instr.makeMap, Option.map_none, Sem.run_bind, run_newObj, Sem.run_pure, Result.andThen_ok]
  rfl
theorem raw_ins (hm : e.get m = .v (.map (some b))) (hk : e.get k = .v (.int .i64 n)) (hx : e.get x = .v v)
    (h1 : ∀ w : World, (underlying t).run P w = .ok (.map kt et) w) (h2 : ∀ w : World, (underlying kt).run P w = .ok (.int .i64) w) (hf : findI n l 0 = none)
    (hK : Kr undef (h.set b (mapO (l ++ [(n, v)])))) : Raw P ⟨dst, .insert t m k x, ty, pos, af, g⟩ e (h.set b (mapO l)) Kr := by
  rw [Raw_def]; unfold Raw_
  refine ⟨?_, fun ρ hρ w hw => ?_⟩
  · intro y hy
    simp only [Op.operands, List.mem_toArray, List.mem_cons, List.not_mem_nil, or_false] at hy
    rcases hy with rfl | rfl | rfl
    · exact ⟨_, hm⟩
    · exact ⟨_, hk⟩
    · exact ⟨_, hx⟩
  · have e1 := hρ m (by simp [Op.operands])
    have e2 := hρ k (by simp [Op.operands])
    have e3 := hρ x (by simp [Op.operands])
    rw [hm] at e1
    rw [hk] at e2
    rw [hx] at e3
    injection e1 with e1
    injection e2 with e2
    injection e3 with e3
    have hb : (h.set b (mapO l)) b = some (mapO l) := by simp [Heap.set]
    have hw' := hw _ _ hb
    have mv := Moves.repl hw hb (mapO (l ++ [(n, v)])) (w' := { w with heap := w.heap.setIfInBounds b (mapO (l ++ [(n, v)])) }) rfl ⟨rfl, rfl, rfl⟩
    rw [set_set] at mv
    refine ⟨undef, _, _, .inr ⟨?_, rfl⟩, mv, hK⟩
    have g1 : ∀ w : World, (Instr.checkKey false 10000 kt (.int .i64 n)).run P w = .ok () w := by
      exact fun w => run_checkKey h2 n _ w
    have g2 : ∀ w : World, (Instr.findKey kt (.int .i64 n) (entsFrom 0 l)).run P w = .ok none w := by
      intro w
      simp only [Instr.findKey, Sem.run_bind, h2, Result.andThen_ok, findNow_ents, hf, Sem.run_pure]
    have g3 : (getObj b).run P w = .ok (.map (entsFrom 0 l).toArray l.length) w := by
      have hw2 : w.heap[b]? = some (.map (entsFrom 0 l).toArray l.length) := hw'
      simp [getObj, Sem.run, hw2]
    have g4 : ∀ o', (setObj b o').run P w = .ok () { w with heap := w.heap.setIfInBounds b o' } := by
      intro o'
      have hw2 : w.heap[b]? = some (.map (entsFrom 0 l).toArray l.length) := hw'
      simp [setObj, Sem.run, hw2]
    have g5 : mapO (l ++ [(n, v)]) = .map ((entsFrom 0 l).toArray.push { key := .int .i64 n, val := v, born := l.length }) (l.length + 1) := by
      simp [mapO, entsFrom_push]
    simp only [execOp, ← e1, ← e2, ← e3]
    simp only [Instr.mapUpdate, Sem.run_bind, h1, Result.andThen_ok, g3, g1, g2, g4, Sem.run_pure, g5]
theorem raw_lk (hm : e.get m = .v (.map (some b))) (hk : e.get k = .v (.int .i64 n))
    (h1 : ∀ w : World, (underlying t).run P w = .ok (.map kt et) w) (h2 : ∀ w : World, (underlying kt).run P w = .ok (.int .i64) w) {z : Value} (h3 : ∀ w : World, (zeroValue et).run P w = .ok z w)
    (hb : h b = some (mapO l))
    (hK : Kr (.tuple (match findI n l 0 with | some (_, v) => #[v, .bool true] | none => #[z, .bool false])) h) : Raw P ⟨dst, .lookup t m k true, ty, pos, af, g⟩ e h Kr := by
  rw [Raw_def]; unfold Raw_
  refine ⟨?_, fun ρ hρ w hw => ?_⟩
  · intro y hy
    simp only [Op.operands, List.mem_toArray, List.mem_cons, List.not_mem_nil, or_false] at hy
    rcases hy with rfl | rfl
    · exact ⟨_, hm⟩
    · exact ⟨_, hk⟩
  · have e1 := hρ m (by simp [Op.operands])
    have e2 := hρ k (by simp [Op.operands])
    rw [hm] at e1
    rw [hk] at e2
    injection e1 with e1
    injection e2 with e2
    refine ⟨_, w, h, .inl ?_, Moves.refl hw, hK⟩
    have hw2 : w.heap[b]? = some (.map (entsFrom 0 l).toArray l.length) := hw _ _ hb
    have g1 : ∀ (q : Bool) (w : World), (Instr.checkKey q 10000 kt (.int .i64 n)).run P w = .ok () w := by
      exact run_checkKey h2 n
    have g2 : ∀ w : World, (Instr.findKey kt (.int .i64 n) (entsFrom 0 l)).run P w = .ok (findI n l 0) w := by
      intro w
      simp only [Instr.findKey, Sem.run_bind, h2, Result.andThen_ok, findNow_ents, Sem.run_pure]
    have g3 : (getObj b).run P w = .ok (.map (entsFrom 0 l).toArray l.length) w := by
      simp [getObj, Sem.run, hw2]
    simp only [execOp, ← e1, ← e2]
    simp only [Instr.lookup, Sem.run_bind, h1, Result.andThen_ok, g3, g1, g2, Sem.run_pure]
    cases findI n l 0 with
    | none => simp only [Sem.run_bind, h3, Result.andThen_ok, Sem.run_pure]; rfl
    | some q => obtain ⟨i, y⟩ := q; simp only [Result.andThen_ok, Sem.run_pure]; rfl
theorem raw_lk1 (hm : e.get m = .v (.map (some b))) (hk : e.get k = .v (.int .i64 n))
    (h1 : ∀ w : World, (underlying t).run P w = .ok (.map kt et) w) (h2 : ∀ w : World, (underlying kt).run P w = .ok (.int .i64) w) {z : Value} (h3 : ∀ w : World, (zeroValue et).run P w = .ok z w)
    (hb : h b = some (mapO l)) {i : Nat} (hf : findI n l 0 = some (i, v)) (hK : Kr (.tuple #[v, .bool true]) h) : Raw P ⟨dst, .lookup t m k true, ty, pos, af, g⟩ e h Kr := raw_lk hm hk h1 h2 h3 hb (by rw [hf]; exact hK)
theorem raw_lk0 (hm : e.get m = .v (.map (some b))) (hk : e.get k = .v (.int .i64 n))
    (h1 : ∀ w : World, (underlying t).run P w = .ok (.map kt et) w) (h2 : ∀ w : World, (underlying kt).run P w = .ok (.int .i64) w) {z : Value} (h3 : ∀ w : World, (zeroValue et).run P w = .ok z w)
    (hb : h b = some (mapO l)) (hf : findI n l 0 = none) (hK : Kr (.tuple #[z, .bool false]) h) : Raw P ⟨dst, .lookup t m k true, ty, pos, af, g⟩ e h Kr := raw_lk hm hk h1 h2 h3 hb (by rw [hf]; exact hK)
theorem selPt {p : Prop} {_ : Decidable p} {t f : Prop} (hp : p) (ht : t) : @Bool.rec (fun _ => Prop) f t (decide p) := selP (fun _ => ht) (fun h => absurd hp h)
theorem selPf {p : Prop} {_ : Decidable p} {t f : Prop} (hp : ¬ p) (hf : f) : @Bool.rec (fun _ => Prop) f t (decide p) := selP (fun h => absurd h hp) (fun _ => hf)
theorem selNPt {p : Prop} {_ : Decidable p} {t f : Prop} (hp : ¬ p) (ht : t) : @Bool.rec (fun _ => Prop) f t (!decide p) := selNP (fun _ => ht) (fun h => absurd h hp)
theorem selNPf {p : Prop} {_ : Decidable p} {t f : Prop} (hp : p) (hf : f) : @Bool.rec (fun _ => Prop) f t (!decide p) := selNP (fun h => absurd hp h) (fun _ => hf)
end Go.Vc
namespace Go.Vc
set_option linter.constructorNameAsVariable false
variable {P : Program}
theorem run_ifeq {t u : TypeId} {f : Field} {ms : Array (String × TypeId)} {k' : IntKind} {info : TypeInfo} (c d : Int)
    (h1 : ∀ w : World, (underlying t).run P w = .ok (.interface ms) w) (h2 : ∀ w : World, (typeInfo u).run P w = .ok info w) (h2' : info.comparable = true)
    (h3 : P.underlying u = some (.struct #[f])) (h4 : P.stoodInHeld u = false) (hn : f.name ≠ "_") (h5 : P.underlying f.type = some (.int k'))
    (hp : ∀ (x : Int) (w : World), (part f.type #[.int .i64 x] f.offset).run P w = .ok (.int .i64 x) w) (w : World) :
    (Go.binOp .eql t (.iface u (.agg #[.int .i64 c])) (.iface u (.agg #[.int .i64 d]))).run P w = .ok (.bool (c == d)) w := by
  have hf : P.fieldsOf u = #[f] := by simp [Program.fieldsOf, h3]
  have e1 : (Op.equalIn (9998 + 1) u (.agg #[.int .i64 c]) (.agg #[.int .i64 d])).run P w = .ok (c == d) w := by
    rw [run_equalIn_struct w 9998 u _ _ (by rw [hf]; exact h3) h4, hf]
    simp only [Op.eqFields, hn, ne_eq, not_false_eq_true, if_true, Sem.run_bind, hp, Result.andThen_ok]
    rw [show (9998 : Nat) = 9997 + 1 from rfl, run_equalIn_int w 9997 f.type .i64 k' c d h5]
    simp only [Result.andThen_ok]
    cases (c == d) <;> simp
  have e2 : (Op.equalIn (9999 + 1) t (.iface u (.agg #[.int .i64 c])) (.iface u (.agg #[.int .i64 d]))).run P w = .ok (c == d) w := by
    rw [Op.equalIn]
    simp only [Sem.run_bind, h1, Result.andThen_ok, ne_eq, not_true_eq_false, if_false, h2, h2', Bool.not_true, Bool.false_eq_true]
    exact e1
  have e3 : (Op.equal t (.iface u (.agg #[.int .i64 c])) (.iface u (.agg #[.int .i64 d]))).run P w = .ok (c == d) w := e2
  simp only [Go.binOp]
  simp [e3]
theorem run_ifeqB {t u : TypeId} {f : Field} {ms : Array (String × TypeId)} {info : TypeInfo} (c d : Bool)
    (h1 : ∀ w : World, (underlying t).run P w = .ok (.interface ms) w) (h2 : ∀ w : World, (typeInfo u).run P w = .ok info w) (h2' : info.comparable = true)
    (h3 : P.underlying u = some (.struct #[f])) (h4 : P.stoodInHeld u = false) (hn : f.name ≠ "_") (h5 : P.underlying f.type = some .bool)
    (hp : ∀ (x : Bool) (w : World), (part f.type #[.bool x] f.offset).run P w = .ok (.bool x) w) (w : World) :
    (Go.binOp .eql t (.iface u (.agg #[.bool c])) (.iface u (.agg #[.bool d]))).run P w = .ok (.bool (c == d)) w := by
  have hf : P.fieldsOf u = #[f] := by simp [Program.fieldsOf, h3]
  have e1 : (Op.equalIn (9998 + 1) u (.agg #[.bool c]) (.agg #[.bool d])).run P w = .ok (c == d) w := by
    rw [run_equalIn_struct w 9998 u _ _ (by rw [hf]; exact h3) h4, hf]
    simp only [Op.eqFields, hn, ne_eq, not_false_eq_true, if_true, Sem.run_bind, hp, Result.andThen_ok]
    rw [show (9998 : Nat) = 9997 + 1 from rfl, run_equalIn_bool' w 9997 f.type c d h5]
    simp only [Result.andThen_ok]
    cases (c == d) <;> simp
  have e2 : (Op.equalIn (9999 + 1) t (.iface u (.agg #[.bool c])) (.iface u (.agg #[.bool d]))).run P w = .ok (c == d) w := by
    rw [Op.equalIn]
    simp only [Sem.run_bind, h1, Result.andThen_ok, ne_eq, not_true_eq_false, if_false, h2, h2', Bool.not_true, Bool.false_eq_true]
    exact e1
  have e3 : (Op.equal t (.iface u (.agg #[.bool c])) (.iface u (.agg #[.bool d]))).run P w = .ok (c == d) w := e2
  simp only [Go.binOp]
  simp [e3]
theorem run_sneq {t e : TypeId} (a : Option Addr) (l c : Nat) (h : P.underlying t = some (.slice e)) (w : World) : (Go.binOp .eql t (.slice a l c) (.slice none 0 0)).run P w = .ok (.bool a.isNone) w := by
  simp only [Go.binOp]
  simp [run_equal_slice_nil w t e a l c h]
variable {h : Heap} {e : Env} {dst : Option Nat} {t u ty : TypeId} {x y : Operand} {pos : String} {af : Array Edge} {g : Option (Nat × Bool)}
theorem raw_sn {Kr : Value → Heap → Prop} {el : TypeId} {a : Option Addr} {l c : Nat} (hx : e.get x = .v (.slice a l c)) (hy : e.get y = .v (.slice none 0 0)) (ht : P.underlying t = some (.slice el)) (hk : Kr (.bool a.isNone) h) :
    Raw P ⟨dst, .binOp .eql t x y u, ty, pos, af, g⟩ e h Kr :=
  raw_eq hx hy (fun w => by simp [eqGuard]) (run_sneq a l c ht) hk
theorem rawP_of {o : Oper} {Kr : Value → Prop} {v : Value} (hv : ∀ x ∈ o.op.operands, ∃ v, e.get x = .v v)
    (hr : ∀ ρ : Operand → Value, (∀ x ∈ o.op.operands, e.get x = .v (ρ x)) → ∀ w : World, (execOp ρ o).run P w = .ok (.value v) w) (hk : Kr v) : RawP P o e Kr := by
  rw [RawP_def]; unfold RawP_
  exact ⟨hv, v, hk, hr⟩
end Go.Vc
namespace Go.Vc
set_option linter.constructorNameAsVariable false
variable {P : Program} {S : Sig} {h : Heap} {e : Env} {dst : Option Nat} {t u el ty : TypeId} {x y : Operand} {pos : String} {af : Array Edge} {g : Option (Nat × Bool)}
theorem raw_appz (hS : SigOk P S) {ti tu te : TI} {p : Option Addr} {k cap n : Nat} {kd : IntKind} {Kr : Value → Heap → Prop}
    (hti : S.ty.find t = some ti) (htd : ti.d = .sl el) (htu : S.ty.find u = some tu) (htud : tu.d = .num kd) (hte : S.ty.find el = some te) (hxv : e.get x = .v (.slice p k cap)) (hyv : e.get y = .v (.int .i64 n))
    (hsm : n * te.bytes ≤ 2 ^ 44 ∧ n ≤ 2 ^ 44) (hx : App te.bytes te.size te.zero el h p k cap n (List.replicate n te.zero).flatten Kr) : Raw P ⟨dst, .call { callee := .builtin .append, args := #[x, y], argTypes := #[t, u] }, ty, pos, af, g⟩ e h Kr := by
  rw [Raw_def]; unfold Raw_
  refine ⟨?_, fun ρ hρ w hw => ?_⟩
  · intro z hz
    simp only [Op.operands, Call.operands] at hz
    have : z = x ∨ z = y := by simpa using hz
    rcases this with rfl | rfl
    · exact ⟨_, hxv⟩
    · exact ⟨_, hyv⟩
  have e1 := hρ x (by simp [Op.operands, Call.operands])
  have e2 := hρ y (by simp [Op.operands, Call.operands])
  rw [hxv] at e1
  rw [hyv] at e2
  injection e1 with e1
  injection e2 with e2
  obtain ⟨d, hdd, hag, htd'⟩ := run_under hS hti w
  rw [htd] at htd'
  cases d <;> simp only [tdOf] at htd' <;> try cases htd'
  obtain ⟨du, hdu, _, htu'⟩ := run_under hS htu w
  rw [htud] at htu'
  cases du <;> simp only [tdOf] at htu' <;> try cases htu'
  obtain ⟨i0, hi0, hib0, his0⟩ := run_bytes hS hte w
  have hwr : IntKind.i64.wrap (n : Int) = n := wrap_i64 (by omega) (by omega)
  have hai : ∀ w1 : World, (asInt (.int .i64 (n : Int))).run P w1 = .ok (n : Int) w1 := fun _ => rfl
  have hneg : ¬ ((n : Int) < 0) := by omega
  have hbig : ¬ ((n : Int) * (te.bytes : Int) > 2 ^ 48) := by
    have : ((n * te.bytes : Nat) : Int) ≤ 2 ^ 44 := by exact_mod_cast hsm.1
    rw [Int.natCast_mul] at this
    omega
  have hrun : (execOp ρ ⟨dst, .call { callee := .builtin .append, args := #[x, y], argTypes := #[t, u] }, ty, pos, af, g⟩).run P w = ((Builtin.append_ #[t, u] ty #[.slice p k cap, .int .i64 n]).run P w).andThen (fun v w' => .ok (.value v) w') := by
    simp [execOp, resolve, invoke, builtin, ← e1, ← e2]
  have hvs : ∀ w1 : World, (if n * te.size = 0 then (pure #[] : Sem (Array Value)) else do pure (Builtin.zeroCells (← zeroValue el).cells n)).run P w1 = .ok (List.replicate n te.zero).flatten.toArray w1 := by
    intro w1
    obtain ⟨z, hz, hzc⟩ := run_zero hS hte w1
    have hzc' : z.cells = te.zero.toArray := by rw [← hzc]
    have hzl : te.zero.length = te.size := hS.zero _ _ hte
    split
    · rename_i h0
      have : (List.replicate n te.zero).flatten = [] := List.eq_nil_of_length_eq_zero (by simp [hzl]; simpa [Nat.mul_eq_zero] using h0)
      rw [this]; simp
    · simp only [Sem.run_bind, hz, Result.andThen_ok, Sem.run_pure, zeroCells_eq, hzc']
  generalize hV : (List.replicate n te.zero).flatten = vs at hx hvs
  rw [App_def] at hx; unfold App_ at hx
  by_cases hle : k + n ≤ cap
  · obtain ⟨hok, hx⟩ := hx.1 hle
    have happ : ∀ w', (match p with
        | some a => (storeCells (a.add (k * te.size)) vs).run P w = .ok () w'
        | none => w' = w) → ((Builtin.append_ #[t, u] ty #[.slice p k cap, .int .i64 n]).run P w).andThen (fun v w' => .ok (.value v) w') = (.ok (.value (.slice p (k + n) cap)) w' : Result Next) := by
      intro w' hw
      simp only [Builtin.append_, List.getElem?_toArray, List.getElem?_cons_zero, List.getElem?_cons_succ, Sem.run_bind, hdd, Result.andThen_ok, run_sizeOf hS hte, hdu, Sem.run_pure, if_true, hai, hwr, if_neg hneg, hi0, hib0, if_neg hbig, Int.toNat_natCast, if_pos hle, Bool.not_true, Bool.false_eq_true, if_false, hvs w]
      cases p with
      | none => simp only at hw; subst hw; simp
      | some pa => simp only at hw; simp [hw]
    rcases p with _ | ⟨b, off, _ | sp⟩
    · obtain ⟨hvs0, hK⟩ := hx
      exact ⟨_, w, h, .inl (by rw [hrun]; exact happ w rfl), Moves.refl hw, hK⟩
    · obtain ⟨cs, ty', hb, hle', hK⟩ := hx
      obtain ⟨w', hw1, hw2, hwo⟩ := run_storeCells (P := P) b ty' vs (off + k * te.size) 0 w cs (hw _ _ hb) (by simpa using hle') hok
      refine ⟨_, w', _, .inl (hrun.trans (happ w' ?_)), Moves.repl hw hb _ (by simpa using hw2) hwo, hK⟩
      simp only [add_off]; exact hw1
    · exact hx.elim
  · obtain ⟨hby, hneed, old, hold, hx⟩ := hx.2 (by omega)
    obtain ⟨i, hi, hib, his⟩ := run_bytes hS hte w
    have hnc := nextcap_le (need := k + n) (cap := cap) (by omega)
    have hnb : Builtin.nextslicecap (k + n) cap * te.bytes ≤ 2 ^ 48 := by
      have h1 := Nat.mul_le_mul_right te.bytes hnc
      rw [Nat.mul_assoc] at h1
      omega
    have holdr : ∀ w1 : World, w1.heap = w.heap → (Builtin.firstCells te.size k (.slice p k cap)).run P w1 = .ok old.toArray w1 := by
      intro w1 hw1
      rcases p with _ | ⟨b, off, _ | sp⟩
      · rw [hold.2]; rfl
      · obtain ⟨hl, hc⟩ := rdn_spec _ _ _ hold
        simp only [Builtin.firstCells, loadCells]
        have := run_loadCells (P := P) (w := w1) old b off 0 #[] (fun j v hj => by
          have := rd_cell hw (hc j v hj)
          simp only [World.cell?, hw1] at this ⊢
          simpa using this)
        rw [hl] at this
        simpa using this
      · exact hold.elim
    obtain ⟨nc, hnc1, hnc2⟩ : ∃ nc, k + n ≤ nc ∧ (choose (.appendCap (k + n) cap el)).run P w = .ok nc { w with drawn := w.drawn + 1 } := by
      refine ⟨_, ?_, by simp [Question.forced]; rfl⟩
      simp only [Question.cut]; omega
    have hmax : ¬ (((k + n : Nat) : Int) > IntKind.i64.max) := by
      have : (IntKind.i64.max : Int) = 9223372036854775807 := by decide
      rw [this]; omega
    refine ⟨.slice (some ⟨w.heap.size, 0, none⟩) (k + n) nc, { w with drawn := w.drawn + 1, heap := w.heap.push (.cells (old ++ vs ++ (List.replicate (nc - (k + n)) te.zero).flatten).toArray el) }, _, .inl ?_, ?_, hx _ nc (fresh_none hw) hnc1⟩
    · rw [hrun]
      simp only [Builtin.append_, List.getElem?_toArray, List.getElem?_cons_zero, List.getElem?_cons_succ, Sem.run_bind, hdd, Result.andThen_ok, run_sizeOf hS hte, hdu, Sem.run_pure, if_true, hai, hwr, if_neg hneg, hi0, hib0, if_neg hbig, Int.toNat_natCast, if_neg hle, Bool.not_true, Bool.false_eq_true, if_false, hi, hib]
      rw [if_neg (by rintro ⟨h1, _⟩; exact hmax h1)]
      simp only [Sem.run_bind, Sem.run_pure, Result.andThen_ok, hi, hib]
      rw [if_neg (by omega)]
      simp only [Sem.run_bind, Sem.run_pure, Result.andThen_ok, hnc2, hi, hib, run_askRoom]
      obtain ⟨i2, hi2, _, _⟩ := run_bytes hS hte { w with drawn := w.drawn + 1 }
      simp only [hi2, Result.andThen_ok]
      rw [holdr { w with drawn := w.drawn + 1 } rfl]
      simp only [Result.andThen_ok]
      rw [hvs { w with drawn := w.drawn + 1 }]
      obtain ⟨z', hz', hzc'⟩ := run_zero hS hte { w with drawn := w.drawn + 1 }
      have hzc'' : z'.cells = te.zero.toArray := by rw [← hzc']
      simp only [Result.andThen_ok, hz', zeroCells_eq, hzc'', Go.newRow, Sem.run_bind, run_newObj, Sem.run_pure]
      simp
    · have := Moves.push hw (.cells (old ++ vs ++ (List.replicate (nc - (k + n)) te.zero).flatten).toArray el)
      exact ⟨this.view, this.keep, this.dom, this.size, rfl, rfl, rfl⟩
theorem raw_cp (hS : SigOk P S) {ti te : TI} {b off dl dc sl sc : Nat} {p : Option Addr} {vs cs : List Value} {t' : TypeId} {Kr : Value → Heap → Prop}
    (hti : S.ty.find t = some ti) (htd : ti.d = .sl el) (hte : S.ty.find el = some te) (hxv : e.get x = .v (.slice (some ⟨b, off, none⟩) dl dc)) (hyv : e.get y = .v (.slice p sl sc))
    (hr : (p = none ∧ vs = []) ∨ ∃ b2 o2, p = some ⟨b2, o2, none⟩ ∧ rdn h b2 o2 (Nat.min sl dl * te.size) = some vs) (hb : h b = some (.cells cs.toArray t' (0, 0))) (hl : off + vs.length ≤ cs.length) (hc : cellsOk vs = true)
    (hk : Kr (.int .i64 (Nat.min sl dl : Nat)) (h.set b (.cells (wrls cs off vs).toArray t' (0, 0)))) : Raw P ⟨dst, .call { callee := .builtin .copy, args := #[x, y], argTypes := #[t, u] }, ty, pos, af, g⟩ e h Kr := by
  rw [Raw_def]; unfold Raw_
  refine ⟨?_, fun ρ hρ w hw => ?_⟩
  · intro z hz
    simp only [Op.operands, Call.operands] at hz
    have : z = x ∨ z = y := by simpa using hz
    rcases this with rfl | rfl
    · exact ⟨_, hxv⟩
    · exact ⟨_, hyv⟩
  have e1 := hρ x (by simp [Op.operands, Call.operands])
  have e2 := hρ y (by simp [Op.operands, Call.operands])
  rw [hxv] at e1
  rw [hyv] at e2
  injection e1 with e1
  injection e2 with e2
  obtain ⟨d, hdd, hag, htd'⟩ := run_under hS hti w
  rw [htd] at htd'
  cases d <;> simp only [tdOf] at htd' <;> try cases htd'
  have hrun : (execOp ρ ⟨dst, .call { callee := .builtin .copy, args := #[x, y], argTypes := #[t, u] }, ty, pos, af, g⟩).run P w = ((Builtin.copy_ #[t, u] ty #[.slice (some ⟨b, off, none⟩) dl dc, .slice p sl sc]).run P w).andThen (fun v w' => .ok (.value v) w') := by
    simp [execOp, resolve, invoke, builtin, ← e1, ← e2]
  have hlen : (Builtin.lenOf (.slice p sl sc)).run P w = .ok sl w := rfl
  have hfc : (Builtin.firstCells te.size (Nat.min sl dl) (.slice p sl sc)).run P w = .ok vs.toArray w := by
    rcases hr with ⟨rfl, rfl⟩ | ⟨b2, o2, rfl, hvs⟩
    · rfl
    · obtain ⟨hl2, hc2⟩ := rdn_spec _ _ _ hvs
      simp only [Builtin.firstCells, loadCells]
      have := run_loadCells (P := P) (w := w) vs b2 o2 0 #[] (fun j v hj => by
        have := rd_cell hw (hc2 j v hj)
        simpa using this)
      rw [hl2] at this
      simpa using this
  obtain ⟨w', hw1, hw2, hwo⟩ := run_storeCells (P := P) b t' vs off 0 w cs.toArray (hw _ _ hb) (by simpa using hl) hc
  refine ⟨_, w', _, .inl ?_, Moves.repl hw hb _ (by simpa using hw2) hwo, hk⟩
  rw [hrun]
  simp only [Builtin.copy_, List.getElem?_toArray, List.getElem?_cons_zero, List.getElem?_cons_succ, Sem.run_bind, hdd, Result.andThen_ok, hlen, run_sizeOf hS hte, hfc]
  have : (storeCells ⟨b, off, none⟩ vs).run P w = .ok () w' := hw1
  simp [this, goInt]
end Go.Vc
namespace Go.Vc
set_option linter.constructorNameAsVariable false
def Trap_ (P : Program) (S : Sig) (res : List ResultVar) (R : Value → Heap → Prop) (g : FuncId) (cv : List Value) (u : FrameMode) (e : Env) (h : Heap) : Prop :=
  ∀ w : World, (∀ b o, h b = some o → w.heap[b]? = some o) → CallsD P g cv.toArray u w fun en u' w' => (∃ v, en = .returned v) ∧ settle u' = .returning ∧ ∃ h', Moves h w h' w' ∧ resVals S e h' res fun vs => oneRes (fun v => R v h') vs
structure Trap (P : Program) (S : Sig) (res : List ResultVar) (R : Value → Heap → Prop) (g : FuncId) (cv : List Value) (u : FrameMode) (e : Env) (h : Heap) : Prop where
  run : Trap_ P S res R g cv u e h
theorem Rel.defer {D : List Deferred} {n : Nat} {h0 h : Heap} {w0 w : World} {β : Nat → Nat} {e : Env} {a : Act} (r : Rel D n h0 w0 β e h a w) (d : Deferred) : Rel (d :: D) n h0 w0 β e h { a with defers := d :: a.defers } w where
  size := r.size
  nod := by show d :: a.defers = _; rw [r.nod]
  slot := r.slot
  box := r.box
  inj := r.inj
  mv := r.mv
theorem wopsL_pre {P : Program} {S : Sig} (hS : SigOk P S) {D : List Deferred} {n : Nat} {h0 : Heap} {w0 : World} {F : Fs} {ops : Array Oper} (hd : ∀ o ∈ ops.toList, ∀ d', o.dst = some d' → d' < n) {K : Env → Heap → Prop} {Q : Exit → Act → World → Prop} (rest : List Nat)
    (hk : ∀ e' h' β' a' w', K e' h' → Rel D n h0 w0 β' e' h' a' w' → wpOps P ops Q rest a' w') :
    ∀ (l : List Oper) (k : Nat) (e : Env) (h : Heap) (β : Nat → Nat) (a : Act) (w : World), (∀ j, j < l.length → l[j]? = ops[k + j]?) → Rel D n h0 w0 β e h a w →
      wopsL P S F ops.toList K (fun _ _ => False) l e h → wpOps P ops Q (List.range' k l.length ++ rest) a w
  | [], k, e, h, β, a, w, _, r, hx => hk _ _ β _ _ hx r
  | o :: l, k, e, h, β, a, w, hl, r, hx => by
    have h0 : ops[k]? = some o := by simpa using (hl 0 (by simp)).symm
    rw [List.length_cons, List.range'_succ, List.cons_append, wpOps_cons]
    refine oneOp_sound hS h0 r (hd o (by rw [← Array.getElem?_toList] at h0; exact List.mem_of_getElem? h0)) hx (fun e' h' β' a' w' hK hR => ?_) (fun _ _ _ _ hE => hE.elim)
    exact wopsL_pre hS hd rest hk l (k + 1) e' h' β' a' w' (fun j hj => by have := hl (j + 1) (by simpa using hj); simpa [Nat.add_assoc, Nat.add_comm 1 j] using this) hR hK
def GoalT (P : Program) (S : Sig) (F : Fs) (res : List ResultVar) (R : Value → Heap → Prop) (A T : Code) (d : Nat) (g : FuncId) (caps : List Operand) (ops2 pre : List Oper) (ldst : Option Nat) (cf : Operand) (cargs : List Operand) (args : List Value) (h : Heap) : Prop :=
  den P S F A (fun ex e1 h1 => match ex with
    | .normal => vals e1 caps fun cv => wopsL P S F ops2 (fun e2 h2 => match e2.get cf with
      | .v fv => vals e2 cargs fun av => callFn P S false fv av h2 (fun s _ h3 => den P S F T (fun ex e4 h4 => match ex with
          | .normal => Trap P S res R g cv .returning e4 h4
          | .ret => Trap P S res R g cv .returning e4 h4
          | _ => False) (e2.put ldst s none) h3) (fun c h3 => Trap P S res R g cv (.panicking c) e2 h3)
      | _ => False) (fun _ _ => False) pre (e1.put (some d) (.v (.func (.func g) #[] ⟨cv⟩)) none) h1
    | _ => False) (startEnv args) h
theorem leave_trap {P : Program} {S : Sig} (hS : SigOk P S) {fn : Func} {R : Value → Heap → Prop} {g : FuncId} {cv : List Value} {u : FrameMode} {e : Env} {h h0 : Heap} {n : Nat} {w0 w : World} {β : Nat → Nat} {a : Act} {D : List Deferred}
    (hu : u ≠ .run) (hlo : Nat.ble S.lo g = true) (hhi : Nat.blt g S.nf = true) (r : Rel D n h0 w0 β e h a w) (hx : Trap P S fn.results.toList R g cv u e h) :
    Leaves P fn a.tmps (fun en w' => ∃ h', Moves h0 w0 h' w' ∧ match en with
      | .returned v => R v h'
      | .panicked _ => False
      | .outgrown => False) [{ target := .fn (.func g) ⟨cv⟩, args := #[] }] u w := by
  obtain ⟨gn, hfn, hbody, hname⟩ := hS.fn g (Nat.le_of_ble_eq_true hlo) (by have := hhi; simp [Nat.blt] at this; omega)
  refine leaves_cons (f := g) (args := cv.toArray) hu ?_ ?_
  · simp only [invoke, callFunc, run_program, Sem.run_bind, Sem.run_pure, Result.andThen_ok, hfn, hname, Bool.false_eq_true, if_false, hbody]
    simp
  · refine (hx.run w r.mv.view).mono ?_
    rintro en u' w' ⟨⟨v, rfl⟩, hs, h', m, hres⟩
    simp only [hs]
    have r2 : Rel D n h0 w0 β e h' a w' := by
      have := r.put m none (fun _ hd => by cases hd) (s := .v undef) (v := undef) rfl
      simpa [Env.put, Act.put] using this
    obtain ⟨v, h1, h2⟩ := results_sound (R := fun o h' => match o with | .ret v => R v h' | .pan _ => False) hS r2 hres
    exact ⟨v, h1, h', r2.mv, h2⟩
theorem calls_trap {P : Program} {S : Sig} (hS : SigOk P S) (F : Fs) {f : FuncId} {fn : Func} {A T : Code} {i1 i2 d : Nat} {g : FuncId} {caps cargs : Array Operand} {t1 t2 : TypeId} {p1 p2 : String} {af1 af2 : Array Edge} {ops2 : Array Oper} {pre : List Oper} {last : Oper} {cf : Operand} {ts : Array TypeId} {args : List Value} {k : Nat} {h : Heap} {R : Value → Heap → Prop}
    (hf : P.funcs[f]? = some fn)
    (hb : fn.body = some (A.seq ((Code.region i1 #[⟨some d, .makeFunc (.func g) #[] caps, t1, p1, af1, none⟩, ⟨none, .defer ⟨.value (.tmp d), #[], #[]⟩, t2, p2, af2, none⟩] false).seq ((Code.region i2 ops2 false).seq T))))
    (hok : fnOk F fn k = true) (hk : args.length = k) (hops : ops2.toList = pre ++ [last]) (hg : last.guard = none) (hlo : last.op = .call { callee := .value cf, args := cargs, argTypes := ts })
    (hglo : Nat.ble S.lo g = true) (hghi : Nat.blt g S.nf = true)
    (hx : GoalT P S F fn.results.toList R A T d g caps.toList ops2.toList pre last.dst cf cargs.toList args h) : Rets P f args h R := by
  subst hk
  simp only [fnOk, hb, Code.dstOk, Code.plansB, Bool.and_eq_true] at hok
  obtain ⟨⟨hn, hdA, hd1, hd2, hdT⟩, hpA, _, _, hpT⟩ := hok
  have hn := Nat.le_of_ble_eq_true hn
  have hdd : d < fn.ntmps := dst_of hd1 _ (List.mem_cons_self) d rfl
  intro w hv
  have key := calls_of_wp_defers (P := P) (f := f) (args := args.toArray) (w := w) (R := fun en w' => ∃ h', Moves h w h' w' ∧ match en with
      | .returned v => R v h'
      | .panicked _ => False
      | .outgrown => False) hf hb ?_
  · refine key.mono ?_
    rintro en w' ⟨h', m, hh⟩
    refine ⟨h', m, ?_⟩
    cases en <;> exact hh
  refine wp_seq (wp_mono (den_sound hS F A _ _ _ _ _ _ hdA (drawsOk_of hS A hdA hpA) hx (start_rel hn hv)) ?_)
  intro ex a1 w1 hpost
  cases ex with
  | exit i => obtain ⟨_, _, _, hx, _⟩ := hpost; exact hx.elim
  | ret => obtain ⟨_, _, _, hx, _⟩ := hpost; exact hx.elim
  | panic c => obtain ⟨_, _, hx, _⟩ := hpost; exact hx.elim
  | goto l => exact hpost.elim
  | outgrown => exact hpost.elim
  | normal =>
    obtain ⟨β1, e1, h1, hx1, r1⟩ := hpost
    obtain ⟨cv, hx1, l1, l2⟩ := vals_spec _ _ hx1
    have hcap := vals_map r1 l1 l2
    refine wp_seq (wp_region ?_)
    have r2 := r1.put (Moves.refl r1.mv.view) (some d) (fun d' hd' => by cases hd'; exact hdd) (s := .v (.func (.func g) #[] ⟨cv⟩)) (v := .func (.func g) #[] ⟨cv⟩) rfl
    show wpOps P _ _ [0, 1] a1 w1
    rw [wpOps_cons]
    unfold wpOp
    simp only [List.getElem?_toArray, List.getElem?_cons_zero, Region.wanted, if_true]
    refine .inl ?_
    have e1r : (execOp a1.eval ⟨some d, .makeFunc (.func g) #[] caps, t1, p1, af1, none⟩).run P w1 = .ok (.value (.func (.func g) #[] ⟨cv⟩)) w1 := by
      simp [execOp, hcap, Instr.makeFunc, Sem.run_bind]
    unfold Oper.wp
    rw [e1r]
    simp only [Oper.upon]
    rw [wpOps_cons]
    unfold wpOp
    simp only [List.getElem?_toArray, List.getElem?_cons_succ, List.getElem?_cons_zero, Region.wanted, if_true]
    refine .inl ?_
    have hfd : (a1.put (some d) (.func (.func g) #[] ⟨cv⟩)).eval (.tmp d) = .func (.func g) #[] ⟨cv⟩ := r2.eval (by simp [Env.get, Env.put])
    have e2r : (execOp (a1.put (some d) (.func (.func g) #[] ⟨cv⟩)).eval ⟨none, .defer ⟨.value (.tmp d), #[], #[]⟩, t2, p2, af2, none⟩).run P w1 = .ok (.defer ⟨.fn (.func g) ⟨cv⟩, #[]⟩) w1 := by
      simp [execOp, resolve, hfd, Deferred.ofValue, Sem.run_bind, Sem.run_pure, Result.andThen_ok]
    unfold Oper.wp
    rw [e2r]
    simp only [Oper.upon, wpOps, Act.put]
    have r3 := r2.defer ⟨.fn (.func g) ⟨cv⟩, #[]⟩
    refine wp_seq (wp_region ?_)
    have hsz : ops2.size = pre.length + 1 := by rw [← Array.length_toList, hops]; simp
    have hlast : ops2[pre.length]? = some last := by rw [← Array.getElem?_toList, hops]; simp
    have hr : List.range ops2.size = List.range' 0 pre.length ++ [pre.length] := by
      rw [hsz, List.range_eq_range', List.range'_append_1 (s := 0) (m := pre.length) (n := 1) |>.symm]; simp
    rw [hr]
    refine wopsL_pre hS (dst_of hd2) _ ?_ pre 0 _ _ β1 _ _ (fun j hj => by rw [Nat.zero_add, ← Array.getElem?_toList, hops, List.getElem?_append_left hj]) r3 hx1
    intro e2 h2 β2 a2 w2 hx2 r4
    rw [wpOps_cons]
    unfold wpOp
    simp only [hlast, Region.wanted, hg, if_true]
    refine .inl ?_
    split at hx2
    case h_2 => exact hx2.elim
    rename_i fv hfv
    obtain ⟨vs, hx2, m1, m2⟩ := vals_spec _ _ hx2
    have hargs := vals_map r4 m1 m2
    unfold callFn at hx2
    split at hx2
    · rename_i g' first captured hx9
      split at hx2
      · rename_i hlo' hhi'
        obtain ⟨fn', hfn', hbody', hname'⟩ := hS.fn g' (Nat.le_of_ble_eq_true hlo') (by have := hhi'; simp [Nat.blt] at this; omega)
        rw [forceL_eq] at hx2
        have hrun : (execOp a2.eval last).run P w2 = .ok (.enter g' (first ++ vs.toArray ++ captured)) w2 := by
          simp only [execOp, hlo, resolve, r4.eval hfv, Deferred.ofValue, hargs, Sem.run_bind, Sem.run_pure, Result.andThen_ok, invoke, callFunc, run_program, hfn', hname', Bool.false_eq_true, if_false, hbody']
        have harr : (first.toList ++ vs ++ captured.toList).toArray = first ++ vs.toArray ++ captured := by
          apply Array.ext'; simp
        have hx2 := hx2.run
        unfold Call_ at hx2
        unfold Oper.wp
        rw [hrun]
        simp only [Oper.upon]
        rw [← harr]
        refine (hx2 w2 r4.mv.view).mono ?_
        rintro en w3 ⟨h3, m, hm⟩
        cases en with
        | outgrown => exact hm.elim
        | returned v =>
          have r5 := r4.put m last.dst (dst_of hd2 last (by rw [hops]; simp)) (s := .v v) (v := v) rfl
          refine wp_mono (den_sound hS F T _ _ _ _ _ _ hdT (drawsOk_of hS T hdT hpT) hm r5) ?_
          intro ex a5 w5 hpost
          cases ex with
          | normal => obtain ⟨β', e', h', hK, hR⟩ := hpost; show Leaves _ _ _ _ a5.defers _ _; rw [hR.nod]; exact leave_trap hS (by simp) hglo hghi hR hK
          | ret => obtain ⟨β', e', h', hK, hR⟩ := hpost; show Leaves _ _ _ _ a5.defers _ _; rw [hR.nod]; exact leave_trap hS (by simp) hglo hghi hR hK
          | exit i => obtain ⟨_, _, _, hx, _⟩ := hpost; exact hx.elim
          | panic c => obtain ⟨_, _, hx, _⟩ := hpost; exact hx.elim
          | goto l => exact hpost.elim
          | outgrown => exact hpost.elim
        | panicked c =>
          have r5 := r4.put m none (fun _ hd => by cases hd) (s := .v undef) (v := undef) rfl
          simp only [Env.put, Act.put] at r5
          show Leaves _ _ _ _ a2.defers _ _
          rw [r5.nod]
          exact leave_trap hS (by simp) hglo hghi r5 hm
      · exact hx2.elim
    · exact hx2.elim
theorem calls_trap' {P : Program} {S : Sig} (hS : SigOk P S) (F : Fs) {f : FuncId} {fn : Func} {A T : Code} {i1 i2 d : Nat} {g : FuncId} {caps cargs : Array Operand} {t1 t2 : TypeId} {p1 p2 : String} {af1 af2 : Array Edge} {ops2 : Array Oper} {last : Oper} {cf : Operand} {ts : Array TypeId} {args : List Value} {k : Nat} {h : Heap} {R : Value → Heap → Prop} (m : Nat)
    (hf : P.funcs[f]? = some fn) (hok : fnOk F fn k = true) (hk : args.length = k)
    (hb : fn.body = some (A.seq ((Code.region i1 #[⟨some d, .makeFunc (.func g) #[] caps, t1, p1, af1, none⟩, ⟨none, .defer ⟨.value (.tmp d), #[], #[]⟩, t2, p2, af2, none⟩] false).seq ((Code.region i2 ops2 false).seq T))))
    (hm : ops2.size = m + 1) (hl : ops2[m]? = some last) (hg : last.guard = none) (hlo : last.op = .call { callee := .value cf, args := cargs, argTypes := ts })
    (hglo : Nat.ble S.lo g = true) (hghi : Nat.blt g S.nf = true)
    (hx : GoalT P S F fn.results.toList R A T d g caps.toList ops2.toList (ops2.toList.take m) last.dst cf cargs.toList args h) : Rets P f args h R := by
  refine calls_trap hS F hf hb hok hk ?_ hg hlo hglo hghi hx
  rw [← Array.getElem?_toList] at hl
  have hlen : ops2.toList.length = m + 1 := by rw [Array.length_toList, hm]
  obtain ⟨hlt, hge⟩ := List.getElem?_eq_some_iff.1 hl
  rw [← hge]
  apply List.ext_getElem?
  intro j
  by_cases hj : j < m
  · rw [List.getElem?_append_left (by simp; omega), List.getElem?_take_of_lt hj]
  · rw [List.getElem?_append_right (by simp; omega)]
    by_cases hj2 : j = m
    · subst hj2
      simp only [List.length_take, hlen]
      rw [show min j (j + 1) = j by omega]
      simp [hlt]
    · rw [List.getElem?_eq_none (by omega), List.getElem?_eq_none]
      simp; omega
def Found (v : Value) (u : FrameMode) : Prop := (u = .returning ∧ v = .nilIface) ∨ u = .panicking [{ v, recovered := false }]
theorem trap_of {P : Program} {S : Sig} (hS : SigOk P S) (F : Fs) {g : FuncId} {gn : Func} {i d : Nat} {t0 : TypeId} {p0 : String} {af : Array Edge} {ts : Array TypeId} {T : Code} {cv : List Value} {k : Nat} {h : Heap} {res : List ResultVar} {R : Value → Heap → Prop} {e : Env} {u : FrameMode} {v : Value}
    (hu : Found v u) (hf : P.funcs[g]? = some gn) (hb : gn.body = some ((Code.region i #[⟨some d, .call ⟨.builtin .recover, #[], ts⟩, t0, p0, af, none⟩] false).seq T)) (hr : gn.results = #[])
    (hok : fnOk F gn k = true) (hk : cv.length = k)
    (hx : den P S F T (fun ex _ h' => match ex with
      | .normal => resVals S e h' res fun vs => oneRes (fun v => R v h') vs
      | .ret => resVals S e h' res fun vs => oneRes (fun v => R v h') vs
      | _ => False) ((startEnv cv).put (some d) (.v v) none) h) : Trap P S res R g cv u e h := by
  subst hk
  simp only [fnOk, hb, Code.dstOk, Code.plansB, Bool.and_eq_true] at hok
  obtain ⟨⟨hn, hd1, hdT⟩, _, hpT⟩ := hok
  have hn := Nat.le_of_ble_eq_true hn
  have hdd : d < gn.ntmps := dst_of hd1 _ (List.mem_cons_self) d rfl
  refine ⟨fun w hv => callsD_of_wpS (c := (Code.region i #[⟨some d, .call ⟨.builtin .recover, #[], ts⟩, t0, p0, af, none⟩] false).seq T) hf hb fun c0 cs hm => ?_⟩
  have r0 := start_rel (fn := gn) hn hv
  have r1 := r0.put (Moves.refl r0.mv.view) (some d) (fun d' hd' => by cases hd'; exact hdd) (s := .v v) (v := v) rfl
  apply wpS_seq
  apply wpS_region
  show wpOpsS P _ _ [0] _ _ _
  have run : ∀ (ρ : Operand → Value), (execOp ρ ⟨some d, .call ⟨.builtin .recover, #[], ts⟩, t0, p0, af, none⟩).run P w = .ok .recover w := by
    intro ρ
    simp [execOp, resolve, invoke, builtin]
  have fin : ∀ cs' u', settle u' = .returning → cs' = { c0 with mode := u' } :: cs → T.wpS P (bodyPostS P gn c0 cs fun en u' w' => (∃ v, en = .returned v) ∧ settle u' = .returning ∧ ∃ h', Moves h w h' w' ∧ resVals S e h' res fun vs => oneRes (fun v => R v h') vs) (({ tmps := cv.toArray ++ Array.replicate (gn.ntmps - cv.toArray.size) undef, defers := [] } : Act).put (some d) v) cs' w := by
    intro cs' u' hs hcs
    refine wpS_of_wp (wp_mono (den_sound hS F T _ _ _ _ _ _ hdT (drawsOk_of hS T hdT hpT) hx r1) ?_)
    intro ex a5 w5 hpost
    have hres : (results gn a5.tmps).run P w5 = .ok (.tuple #[]) w5 := by
      unfold results; rw [hr]; simp [Sem.run_bind, Sem.run_pure]
    cases ex with
    | normal => obtain ⟨β', e', h', hK, hR⟩ := hpost; exact ⟨hR.nod, u', hcs, _, hres, ⟨_, rfl⟩, hs, h', hR.mv, hK⟩
    | ret => obtain ⟨β', e', h', hK, hR⟩ := hpost; exact ⟨hR.nod, u', hcs, _, hres, ⟨_, rfl⟩, hs, h', hR.mv, hK⟩
    | exit i => obtain ⟨_, _, _, hx, _⟩ := hpost; exact hx.elim
    | panic c => obtain ⟨_, _, hx, _⟩ := hpost; exact hx.elim
    | goto l => exact hpost.elim
    | outgrown => exact hpost.elim
  have hc0 : c0 = { c0 with mode := c0.mode } := rfl
  simp only [wpOpsS, List.getElem?_toArray, List.getElem?_cons_zero, Region.wanted, if_true, run]
  rcases hu with ⟨rfl, rfl⟩ | rfl
  · simp only [recoverD, hm]
    exact fin _ .returning rfl (by rw [← hm])
  · simp only [recoverD, hm]
    exact fin _ (.panicking [{ v, recovered := true }]) rfl rfl
end Go.Vc
