/- A region that draws its order: the walk of one plan serves every order. -/
import Derived.Test.YtfihllhldnaofaaVcDen
import Derived.Orders
namespace Go.Vc
set_option linter.constructorNameAsVariable false
set_option linter.unusedVariables false
set_option linter.unusedSimpArgs false
variable {P : Program} {S : Sig} {F : Fs} {o : Oper} {e : Env} {h : Heap} {K : Slot → Bx → Heap → Prop} {E : List PanicEntry → Heap → Prop}

theorem Heap.le_refl (h : Heap) : h.le h := fun _ _ x => x
theorem Heap.le_trans {a b c : Heap} (x : a.le b) (y : b.le c) : a.le c := fun k o hk => y k o (x k o hk)
theorem Heap.le_set {b : Nat} (o : Obj) (hb : h b = none) : h.le (h.set b o) := by
  intro c x hc
  simp only [Heap.set]
  split
  · rename_i hh; subst hh; rw [hb] at hc; cases hc
  · exact hc

/-! ### Each word goes one way -/
theorem cellsAt_fun {ti : TI} {v : Value} {Kc : List Value → Prop} (hx : cellsAt ti v Kc) : ∃ vs, Kc vs ∧ ∀ Kd : List Value → Prop, Kd vs → cellsAt ti v Kd := by
  unfold cellsAt at hx ⊢
  cases hag : ti.agg with
  | true =>
    simp only [hag] at hx
    cases v with
    | agg cs =>
      simp only [forceL_eq] at hx ⊢
      split at hx
      · rename_i hl
        exact ⟨_, hx, fun Kd hk => by (try simp only [hl]); exact hk⟩
      · exact hx.elim
    | _ => exact hx.elim
  | false =>
    simp only [hag] at hx
    simp only
    split at hx
    · exact ⟨_, hx, fun Kd hk => hk⟩
    · exact hx.elim
theorem parts_fun {tyOf : Nat → Option TI} : ∀ (ps : List (Nat × Operand)) (Kp : List (Nat × List Value) → Prop), parts e tyOf ps Kp →
    ∃ qs, Kp qs ∧ ∀ Kd : List (Nat × List Value) → Prop, Kd qs → parts e tyOf ps Kd
  | [], Kp, hx => ⟨[], hx, fun _ hk => hk⟩
  | (i, x) :: ps, Kp, hx => by
    simp only [parts] at hx
    split at hx
    · rename_i v ti hv hti
      obtain ⟨vs, hx, h1⟩ := cellsAt_fun hx
      obtain ⟨qs, hx, h2⟩ := parts_fun ps _ hx
      refine ⟨_, hx, fun Kd hk => ?_⟩
      simp only [parts, hv, hti]
      exact h1 _ (h2 _ hk)
    · exact hx.elim
theorem vals_fun : ∀ (xs : List Operand) (Kc : List Value → Prop), vals e xs Kc → ∃ vs, Kc vs ∧ ∀ Kd : List Value → Prop, Kd vs → vals e xs Kd
  | [], Kc, hx => ⟨[], hx, fun _ hk => hk⟩
  | x :: xs, Kc, hx => by
    simp only [vals] at hx
    split at hx
    · rename_i v hv
      obtain ⟨vs, hx, h1⟩ := vals_fun xs _ hx
      exact ⟨_, hx, fun Kd hk => by simp only [vals, hv]; exact h1 _ hk⟩
    · exact hx.elim
theorem sub_fun {a : Option Addr} {cap l size : Nat} {Kc : Option Addr → Prop} (hx : Sub a cap l size Kc) : ∃ oa, Kc oa ∧ ∀ Kd : Option Addr → Prop, Kd oa → Sub a cap l size Kd := by
  unfold Sub at hx ⊢
  by_cases hh : cap = l
  · exact ⟨a, hx a (fun hn => absurd hh hn) (fun _ => rfl), fun Kd hk oa _ h2 => by rw [h2 hh]; exact hk⟩
  · exact ⟨_, hx _ (fun _ => rfl) (fun he => absurd he hh), fun Kd hk oa h1 _ => by rw [h1 hh]; exact hk⟩
theorem sliceLo_fun {size : Nat} {a : Option Addr} {cap H : Nat} {lo : Option Slot} {Kc : Value → Prop} (hx : sliceLo size a cap lo H Kc) : ∃ v, Kc v ∧ ∀ Kd : Value → Prop, Kd v → sliceLo size a cap lo H Kd := by
  unfold sliceLo at hx ⊢
  split at hx
  · exact ⟨_, hx, fun _ hk => hk⟩
  · obtain ⟨h1, hx⟩ := ob_iff.1 hx
    obtain ⟨oa, hx, h2⟩ := sub_fun hx
    exact ⟨_, hx, fun Kd hk => ob_iff.2 ⟨h1, h2 _ hk⟩⟩
  · exact hx.elim
theorem sliceOf_fun {size : Nat} {a : Option Addr} {n cap : Nat} {lo hi : Option Slot} {Kc : Value → Prop} (hx : sliceOf size a n cap lo hi Kc) : ∃ v, Kc v ∧ ∀ Kd : Value → Prop, Kd v → sliceOf size a n cap lo hi Kd := by
  unfold sliceOf at hx ⊢
  split at hx
  · exact sliceLo_fun hx
  · obtain ⟨h1, hx⟩ := ob_iff.1 hx
    obtain ⟨v, hx, h2⟩ := sliceLo_fun hx
    exact ⟨v, hx, fun Kd hk => ob_iff.2 ⟨h1, h2 Kd hk⟩⟩
  · exact hx.elim
theorem bld_fun {t : TypeId} {ps : List (Nat × Operand)} {Kc : Value → Prop} (hx : bld S t ps e Kc) : ∃ v, Kc v ∧ ∀ Kd : Value → Prop, Kd v → bld S t ps e Kd := by
  unfold bld at hx ⊢
  split at hx
  · rename_i ti hti
    split at hx
    · exact hx.elim
    · rename_i pl tyOf hpl
      obtain ⟨qs, hx, h1⟩ := parts_fun _ _ hx
      split at hx
      · rename_i cs hcs
        rw [forceL_eq] at hx
        refine ⟨_, hx, fun Kd hk => ?_⟩
        try simp only [hti, hpl]
        refine h1 _ ?_
        simp only [hcs, forceL_eq]
        exact hk
      · exact hx.elim
  · exact hx.elim
theorem binInt_fun {op : BinOp} {k : IntKind} {m n : Int} {Kc : Value → Prop} (hx : binInt op k m n Kc False) : ∃ v, Kc v ∧ ∀ Kd : Value → Prop, Kd v → binInt op k m n Kd False := by
  cases op <;> simp only [binInt] at hx ⊢ <;> first
    | exact hx.elim
    | exact ⟨_, hx, fun _ hk => hk⟩
    | exact ⟨_, ar_iff.1 hx, fun _ hk => ar_iff.2 hk⟩
    | (obtain ⟨h1, hx⟩ := ob_iff.1 hx; exact ⟨_, ar_iff.1 hx, fun _ hk => ob_iff.2 ⟨h1, ar_iff.2 hk⟩⟩)
    | (obtain ⟨h1, hx⟩ := ob_iff.1 hx; exact ⟨_, hx, fun _ hk => ob_iff.2 ⟨h1, hk⟩⟩)
inductive Cls where
  | P | L | R | X | A | W
def cls (F : Fs) (o : Oper) : Cls :=
  match o.op with
  | .alloc _ | .box .. | .buildSlice .. => match inL F.L o.dst with
    | true => .P
    | false => .X
  | .load .. => match inL F.LL o.dst with
    | true => .L
    | false => .R
  | .makeSlice .. => .X
  | .call { callee := .value _, .. } => .X
  | .call { callee := .builtin .append, .. } => .A
  | op => match isW op with
    | true => .W
    | false => .P
theorem local_of {d : Option Nat} (hh : inL F.L d = true) : ∃ d', isLocal F d = some d' ∧ d = some d' := by
  cases d with
  | none => cases hh
  | some d => simp only [inL] at hh; exact ⟨d, by simp [isLocal, hh], rfl⟩
theorem newVar_fun {t : TypeId} {d : Option Nat} {cs : List Value} (hl : inL F.L d = true) (hx : newVar F t d cs e h K) :
    ∃ s bx, K s bx h ∧ ∀ (h' : Heap) (K' : Slot → Bx → Heap → Prop), K' s bx h' → newVar F t d cs e h' K' := by
  obtain ⟨d', h1, h2⟩ := local_of hl
  unfold newVar at hx ⊢
  simp only [h1] at hx ⊢
  split at hx
  · rename_i hb
    rw [forceL_eq] at hx
    exact ⟨_, _, hx, fun h' K' hk => by simp only [hb, forceL_eq]; exact hk⟩
  · exact hx.elim
theorem newRow_fun {t : TypeId} {d : Option Nat} {n : Nat} {cs : List Value} (hl : inL F.L d = true) (hx : newRow F t d n cs e h K) :
    ∃ s bx, K s bx h ∧ ∀ (h' : Heap) (K' : Slot → Bx → Heap → Prop), K' s bx h' → newRow F t d n cs e h' K' := by
  obtain ⟨d', h1, h2⟩ := local_of hl
  unfold newRow at hx ⊢
  simp only [h1] at hx ⊢
  split at hx
  · rename_i hb
    rw [forceL_eq] at hx
    exact ⟨_, _, hx, fun h' K' hk => by simp only [hb, forceL_eq]; exact hk⟩
  · exact hx.elim
theorem loadL_fun {ti : TI} {u off : Nat} (hx : load ti (.l u off) e h K) : ∃ s, K s none h ∧ ∀ (h' : Heap) (K' : Slot → Bx → Heap → Prop), K' s none h' → load ti (.l u off) e h' K' := by
  unfold load at hx ⊢
  simp only at hx ⊢
  split at hx
  · rename_i vs hvs
    try simp only [hvs]
    split at hx
    · rename_i hag
      rw [forceL_eq] at hx
      exact ⟨_, hx, fun h' K' hk => by first | exact (forceL_eq _ _).2 hk | (simp only [hag, forceL_eq]; exact hk)⟩
    · rename_i hag
      split at hx
      · exact ⟨_, hx, fun h' K' hk => by first | exact hk | (simp only [hag]; exact hk)⟩
      · exact hx.elim
  · exact hx.elim
theorem rdn_le {h' : Heap} (hl : h.le h') {b : Nat} : ∀ (n off : Nat) (vs : List Value), rdn h b off n = some vs → rdn h' b off n = some vs := by
  have hrd : ∀ off v, rd h b off = some v → rd h' b off = some v := by
    intro off v hv
    unfold rd at hv ⊢
    cases hb : h b with
    | none => rw [hb] at hv; cases hv
    | some o => rw [hb] at hv; rw [hl b o hb]; exact hv
  intro n
  induction n with
  | zero => intro off vs hv; exact hv
  | succ n ih =>
    intro off vs hv
    simp only [rdn] at hv ⊢
    split at hv
    · rename_i v r h1 h2
      rw [hrd _ _ h1, ih _ _ h2]
      exact hv
    · cases hv
theorem load_fun {ti : TI} {x : Slot} (hx : load ti x e h K) : ∃ s, K s none h ∧ ∀ (h' : Heap) (K' : Slot → Bx → Heap → Prop), h.le h' → K' s none h' → load ti x e h' K' := by
  cases x with
  | l u off =>
    obtain ⟨s, h1, h2⟩ := loadL_fun hx
    exact ⟨s, h1, fun h' K' _ hk => h2 h' K' hk⟩
  | r u k => exact hx.elim
  | x => exact hx.elim
  | v v =>
    unfold load at hx ⊢
    split at hx
    · rename_i hh; cases hh
    · rename_i b off hh
      cases hh
      split at hx
      · rename_i hag
        unfold LdN at hx
        obtain ⟨vs, hvs, hx⟩ := hx
        refine ⟨_, hx, fun h' K' hl hk => ?_⟩
        try simp only [hag]
        unfold LdN
        exact ⟨vs, rdn_le hl _ _ _ hvs, hk⟩
      · rename_i hag
        split at hx
        · rename_i hsz
          unfold Ld at hx
          obtain ⟨v, hv, hx⟩ := hx
          refine ⟨_, hx, fun h' K' hl hk => ?_⟩
          try simp only [hag, hsz]
          unfold Ld
          have := rdn_le hl (b := b) 1 off [v] (by simp [rdn, hv])
          simp only [rdn] at this
          split at this
          · rename_i v' r h1 h2
            simp only [Option.some.injEq, List.cons.injEq] at this
            exact ⟨v, by rw [h1, this.1], hk⟩
          · cases this
        · exact hx.elim
    · exact hx.elim

/-! ### One operation goes one way -/
theorem exec_fun (hc : cls F o = .P ∨ cls F o = .L) (hx : exec P S F true o e h K E) :
    ∃ s bx, K s bx h ∧ ∀ (h' : Heap) (K' : Slot → Bx → Heap → Prop) (E' : List PanicEntry → Heap → Prop), K' s bx h' → exec P S F true o e h' K' E' := by
  obtain ⟨dst, op, ty, pos, after, guard⟩ := o
  cases op with
  | move y =>
    simp only [exec] at hx ⊢
    cases hy : e.get y <;> simp only [hy] at hx <;> first | exact hx.elim | exact ⟨_, _, hx, fun _ _ _ hk => hk⟩
  | assign y =>
    simp only [exec] at hx ⊢
    cases hy : e.get y <;> simp only [hy] at hx <;> first | exact hx.elim | exact ⟨_, _, hx, fun _ _ _ hk => hk⟩
  | pick c y z =>
    simp only [exec] at hx ⊢
    split at hx
    · rename_i t ht
      cases t with
      | true =>
        have hx : (match e.get y with | .x => False | s => K s none h) := hx
        cases hy : e.get y <;> simp only [hy] at hx <;> first | exact hx.elim | exact ⟨_, _, hx, fun _ _ _ hk => by (try simp only [ht, hy]); exact hk⟩
      | false =>
        have hx : (match e.get z with | .x => False | s => K s none h) := hx
        cases hy : e.get z <;> simp only [hy] at hx <;> first | exact hx.elim | exact ⟨_, _, hx, fun _ _ _ hk => by (try simp only [ht, hy]); exact hk⟩
    · exact hx.elim
  | alloc t =>
    have hl : inL F.L dst = true := by
      simp only [cls] at hc
      split at hc
      · assumption
      · simp at hc
    simp only [exec] at hx ⊢
    split at hx
    · rename_i ti hti
      obtain ⟨s, bx, h1, h2⟩ := newVar_fun hl hx
      exact ⟨s, bx, h1, fun h' K' E' hk => by (try simp only [hti]); exact h2 h' K' hk⟩
    · exact hx.elim
  | box t y =>
    have hl : inL F.L dst = true := by
      simp only [cls] at hc
      split at hc
      · assumption
      · simp at hc
    simp only [exec] at hx ⊢
    split at hx
    · rename_i v ti hv hti
      obtain ⟨cs, hx, h3⟩ := cellsAt_fun hx
      obtain ⟨s, bx, h1, h2⟩ := newVar_fun hl hx
      exact ⟨s, bx, h1, fun h' K' E' hk => by (try simp only [hv, hti]); exact h3 _ (h2 h' K' hk)⟩
    · exact hx.elim
  | build t ps =>
    simp only [exec] at hx ⊢
    obtain ⟨v, hx, h1⟩ := bld_fun hx
    exact ⟨_, _, hx, fun h' K' E' hk => h1 _ hk⟩
  | buildSlice t k ps =>
    have hl : inL F.L dst = true := by
      simp only [cls] at hc
      split at hc
      · assumption
      · simp at hc
    simp only [exec] at hx ⊢
    split at hx
    · rename_i el hti
      split at hx
      · rename_i te hte
        split at hx
        · rename_i hle
          obtain ⟨qs, hx, h3⟩ := parts_fun _ _ hx
          split at hx
          · rename_i cs hcs
            obtain ⟨s, bx, h1, h2⟩ := newRow_fun hl hx
            refine ⟨s, bx, h1, fun h' K' E' hk => ?_⟩
            try simp only [hti, hte, hle]
            refine h3 _ ?_
            try simp only [hcs]
            exact h2 h' K' hk
          · exact hx.elim
        · exact hx.elim
      · exact hx.elim
    · exact hx.elim
  | load t y =>
    have hl : inL F.LL dst = true := by
      simp only [cls] at hc
      split at hc
      · assumption
      · simp at hc
    simp only [exec] at hx ⊢
    split at hx
    · rename_i ti hti
      simp only [hl] at hx
      split at hx
      · rename_i u off hy
        obtain ⟨s, h1, h2⟩ := loadL_fun hx
        exact ⟨s, none, h1, fun h' K' E' hk => by (try simp only [hti, hl, hy]); exact h2 h' K' hk⟩
      · exact hx.elim
    · exact hx.elim
  | nilCheck y =>
    simp only [exec] at hx ⊢
    split at hx
    · rename_i hy; exact ⟨_, _, hx, fun _ _ _ hk => by (try simp only [hy]); exact hk⟩
    · rename_i hy; exact ⟨_, _, hx, fun _ _ _ hk => by (try simp only [hy]); exact hk⟩
    · rename_i hy; exact ⟨_, _, hx, fun _ _ _ hk => by (try simp only [hy]); exact hk⟩
    · rename_i hy; exact ⟨_, _, hx, fun _ _ _ hk => by (try simp only [hy]); exact hk⟩
    · exact hx.elim
  | binOp op t y z u =>
    simp only [exec] at hx ⊢
    split at hx
    · rename_i j i k m hy hz
      split at hx
      · rename_i hjk
        obtain ⟨v, hx, h1⟩ := binInt_fun hx
        exact ⟨_, _, hx, fun h' K' E' hk => by (try simp only [hy, hz, hjk]); exact h1 _ hk⟩
      · exact hx.elim
    · rename_i b c hy hz
      split at hx
      · rename_i hti
        split at hx
        · exact ⟨_, _, hx, fun h' K' E' hk => by (try simp only [hy, hz, hti]); exact hk⟩
        · exact ⟨_, _, hx, fun h' K' E' hk => by (try simp only [hy, hz, hti]); exact hk⟩
        · exact hx.elim
      · exact hx.elim
    · exact hx.elim
  | unOp op t y =>
    simp only [exec] at hx ⊢
    split at hx
    · rename_i b hy; exact ⟨_, _, hx, fun _ _ _ hk => by (try simp only [hy]); exact hk⟩
    · rename_i k m hy; rw [ar_iff] at hx; exact ⟨_, _, hx, fun _ _ _ hk => by (try simp only [hy, ar_iff]); exact hk⟩
    · exact hx.elim
  | convert s t y =>
    simp only [exec] at hx ⊢
    split at hx
    · rename_i ti tj k m hti htj hy
      split at hx
      · rename_i k' hd
        rw [ar_iff] at hx
        exact ⟨_, _, hx, fun _ _ _ hk => by (try simp only [hti, htj, hy, hd, ar_iff]); exact hk⟩
      · exact hx.elim
    · exact hx.elim
  | makeInterface t y =>
    simp only [exec] at hx ⊢
    split at hx
    · rename_i ti v hti hy
      split at hx
      · exact hx.elim
      · rename_i hne
        refine ⟨_, _, hx, fun _ _ _ hk => ?_⟩
        try simp only [hti, hy]
        cases hd : ti.d <;> first | exact hk | exact absurd hd hne
    · exact hx.elim
  | makeFunc f fs cs =>
    simp only [exec] at hx ⊢
    obtain ⟨vs, hx, h1⟩ := vals_fun _ _ hx
    obtain ⟨us, hx, h2⟩ := vals_fun _ _ hx
    exact ⟨_, _, hx, fun _ _ _ hk => h1 _ (h2 _ hk)⟩
  | slice t y lo hi mx =>
    simp only [exec] at hx ⊢
    split at hx
    · rename_i el hti
      split at hx
      · rename_i te p m cap hte hy
        obtain ⟨v, hx, h1⟩ := sliceOf_fun hx
        exact ⟨_, _, hx, fun h' K' E' hk => by (try simp only [hti, hte, hy]); exact h1 _ hk⟩
      · exact hx.elim
    · exact hx.elim
  | fieldAddr t y i =>
    simp only [exec] at hx ⊢
    split at hx
    · rename_i fs hti
      split at hx
      · rename_i k u hf
        split at hx
        · rename_i hy; exact ⟨_, _, hx, fun _ _ _ hk => by (try simp only [hti, hf, hy]); exact hk⟩
        · rename_i hy; exact ⟨_, _, hx, fun _ _ _ hk => by (try simp only [hti, hf, hy]); exact hk⟩
        · exact hx.elim
      · exact hx.elim
    · exact hx.elim
  | field t y i =>
    simp only [exec] at hx ⊢
    split at hx
    · rename_i fs hti
      split at hx
      · rename_i k u hf
        split at hx
        · rename_i cs tu hy htu
          split at hx
          · rename_i vs hvs
            cases hag : tu.agg with
            | true =>
              simp only [hag, forceL_eq] at hx
              exact ⟨_, _, hx, fun _ _ _ hk => by (try simp only [hti, hf, hy, htu, hvs, hag, forceL_eq]); exact hk⟩
            | false =>
              simp only [hag] at hx
              split at hx
              · exact ⟨_, _, hx, fun _ _ _ hk => by (try simp only [hti, hf, hy, htu, hvs, hag]); exact hk⟩
              · exact hx.elim
          · exact hx.elim
        · exact hx.elim
      · exact hx.elim
    · exact hx.elim
  | indexAddr t y z =>
    simp only [exec] at hx ⊢
    split at hx
    · rename_i k i hz
      split at hx
      · rename_i el hti
        split at hx
        · rename_i hte hy
          obtain ⟨h1, hx⟩ := ob_iff.1 hx
          exact ⟨_, _, hx, fun _ _ _ hk => by (try simp only [hz, hti, hte, hy]); exact ob_iff.2 ⟨h1, hk⟩⟩
        · rename_i hte hy
          obtain ⟨h1, hx⟩ := ob_iff.1 hx
          exact ⟨_, _, hx, fun _ _ _ hk => by (try simp only [hz, hti, hte, hy]); exact ob_iff.2 ⟨h1, hk⟩⟩
        · exact hx.elim
      · rename_i el hti
        split at hx
        · rename_i hte hy
          obtain ⟨h1, hx⟩ := ob_iff.1 hx
          exact ⟨_, _, hx, fun _ _ _ hk => by (try simp only [hz, hti, hte, hy]); exact ob_iff.2 ⟨h1, hk⟩⟩
        · rename_i hte hy
          obtain ⟨h1, hx⟩ := ob_iff.1 hx
          exact ⟨_, _, hx, fun _ _ _ hk => by (try simp only [hz, hti, hte, hy]); exact ob_iff.2 ⟨h1, hk⟩⟩
        · exact hx.elim
      · exact hx.elim
    · exact hx.elim
  | index t y z =>
    simp only [exec] at hx ⊢
    split at hx
    · rename_i hy hz
      split at hx
      · rename_i hti
        obtain ⟨h1, hx⟩ := ob_iff.1 hx
        exact ⟨_, _, hx, fun _ _ _ hk => by (try simp only [hy, hz, hti]); exact ob_iff.2 ⟨h1, hk⟩⟩
      · exact hx.elim
    · exact hx.elim
  | extract y i =>
    simp only [exec] at hx ⊢
    split at hx
    · rename_i vs hy
      split at hx
      · rename_i v hv; exact ⟨_, _, hx, fun _ _ _ hk => by (try simp only [hy, hv]); exact hk⟩
      · exact hx.elim
    · exact hx.elim
  | call c =>
    obtain ⟨callee, args, ts⟩ := c
    cases callee with
    | value f => simp [cls] at hc
    | invoke r m => simp [cls, isW] at hc
    | builtin b =>
      cases b with
      | len =>
        simp only [exec] at hx ⊢
        split at hx
        · rename_i y hargs
          split at hx
          · rename_i hy
            split at hx
            · rename_i hti; exact ⟨_, _, hx, fun _ _ _ hk => by (try simp only [hargs, hy, hti]); exact hk⟩
            · exact hx.elim
          · rename_i hy
            split at hx
            · rename_i hti; exact ⟨_, _, hx, fun _ _ _ hk => by (try simp only [hargs, hy, hti]); exact hk⟩
            · exact hx.elim
          · exact hx.elim
        · exact hx.elim
      | append => simp [cls] at hc
      | max =>
        simp only [exec] at hx ⊢
        split at hx
        · split at hx
          · split at hx
            · exact ⟨_, _, hx, fun _ _ _ hk => by first | exact hk | (simp only [*]; exact hk)⟩
            · exact hx.elim
          · exact hx.elim
        · exact hx.elim
      | min =>
        simp only [exec] at hx ⊢
        split at hx
        · split at hx
          · split at hx
            · exact ⟨_, _, hx, fun _ _ _ hk => by first | exact hk | (simp only [*]; exact hk)⟩
            · exact hx.elim
          · exact hx.elim
        · exact hx.elim
      | cap =>
        simp only [exec] at hx ⊢
        split at hx
        · split at hx
          · split at hx
            · exact ⟨_, _, hx, fun _ _ _ hk => by first | exact hk | (simp only [*]; exact hk)⟩
            · exact hx.elim
          · exact hx.elim
        · exact hx.elim
      | _ => simp [cls, isW] at hc
  | _ => simp [cls, isW] at hc

/-! ### What an operation looks at, and what it leaves -/
def Slot.refs : Slot → Nat → Prop
  | .l t _, u => t = u
  | .r t _, u => t = u
  | _, _ => False
structure Res (F : Fs) (o : Oper) (e : Env) (h : Heap) (s : Slot) (bx : Bx) (h' : Heap) : Prop where
  fb : ∀ u cs, bx = some (u, cs) → (o.dst = some u ∧ e.b u = none) ∨ (cls F o = .W ∧ ∃ y ∈ o.op.operands, (e.get y).refs u)
  fs : ∀ u, s.refs u → (∃ y ∈ o.op.operands, (e.get y).refs u) ∨ (∃ cs, bx = some (u, cs))
  le : cls F o ≠ .W → cls F o ≠ .A → h.le h'
structure Agree (F : Fs) (o : Oper) (e e' : Env) : Prop where
  get : ∀ y ∈ o.op.operands, e'.get y = e.get y
  box : cls F o = .P ∨ ∀ y ∈ o.op.operands, ∀ u, (e.get y).refs u → e'.b u = e.b u
  dst : ∀ d, o.dst = some d → e.b d = none → e'.b d = none
theorem Res.plain {x : Value} : Res F o e h (.v x) none h := ⟨(fun _ _ hh => by cases hh), fun _ hh => hh.elim, fun _ _ => Heap.le_refl h⟩
theorem Res.same {s : Slot} {y : Operand} (hy : y ∈ o.op.operands) (hs : e.get y = s) : Res F o e h s none h :=
  ⟨(fun _ _ hh => by cases hh), fun u hh => .inl ⟨y, hy, by rw [hs]; exact hh⟩, fun _ _ => Heap.le_refl h⟩
theorem parts_env {e' : Env} {tyOf : Nat → Option TI} : ∀ (ps : List (Nat × Operand)) (Kp : List (Nat × List Value) → Prop), (∀ p ∈ ps, e'.get p.2 = e.get p.2) → parts e tyOf ps Kp → parts e' tyOf ps Kp
  | [], Kp, _, hx => hx
  | (i, x) :: ps, Kp, hg, hx => by
    simp only [parts, hg (i, x) (by simp)] at hx ⊢
    split at hx
    · obtain ⟨vs, hx, h1⟩ := cellsAt_fun hx
      exact h1 _ (parts_env ps _ (fun p hp => hg p (by simp [hp])) hx)
    · exact hx.elim
theorem vals_env {e' : Env} : ∀ (xs : List Operand) (Kc : List Value → Prop), (∀ x ∈ xs, e'.get x = e.get x) → vals e xs Kc → vals e' xs Kc
  | [], Kc, _, hx => hx
  | x :: xs, Kc, hg, hx => by
    simp only [vals, hg x (by simp)] at hx ⊢
    split at hx
    · exact vals_env xs _ (fun y hy => hg y (by simp [hy])) hx
    · exact hx.elim
theorem newVar_step {e' : Env} {t : TypeId} {cs : List Value} {K' : Slot → Bx → Heap → Prop} (hd : ∀ d, o.dst = some d → e.b d = none → e'.b d = none) (hx : newVar F t o.dst cs e h K)
    (hk : ∀ s bx h', K s bx h' → Res F o e h s bx h' → K' s bx h') : newVar F t o.dst cs e' h K' := by
  unfold newVar at hx ⊢
  split at hx
  · rename_i d hl
    have hl := isLocal_eq hl
    split at hx
    · rename_i hb
      rw [forceL_eq] at hx
      simp only [hd d hl hb, forceL_eq]
      exact hk _ _ _ hx ⟨fun u cs' hh => by simp only [Option.some.injEq, Prod.mk.injEq] at hh; exact .inl ⟨by rw [hl, hh.1], by rw [← hh.1]; exact hb⟩, fun u hh => .inr ⟨_, by cases hh; rfl⟩, fun _ _ => Heap.le_refl h⟩
    · exact hx.elim
  · unfold New at hx ⊢
    intro b hb
    exact hk _ _ _ (hx b hb) ⟨(fun _ _ hh => by cases hh), fun _ hh => hh.elim, fun _ _ => Heap.le_set _ hb⟩
theorem newRow_step {e' : Env} {t : TypeId} {n : Nat} {cs : List Value} {K' : Slot → Bx → Heap → Prop} (hd : ∀ d, o.dst = some d → e.b d = none → e'.b d = none) (hx : newRow F t o.dst n cs e h K)
    (hk : ∀ s bx h', K s bx h' → Res F o e h s bx h' → K' s bx h') : newRow F t o.dst n cs e' h K' := by
  unfold newRow at hx ⊢
  split at hx
  · rename_i d hl
    have hl := isLocal_eq hl
    split at hx
    · rename_i hb
      rw [forceL_eq] at hx
      simp only [hd d hl hb, forceL_eq]
      exact hk _ _ _ hx ⟨fun u cs' hh => by simp only [Option.some.injEq, Prod.mk.injEq] at hh; exact .inl ⟨by rw [hl, hh.1], by rw [← hh.1]; exact hb⟩, fun u hh => .inr ⟨_, by cases hh; rfl⟩, fun _ _ => Heap.le_refl h⟩
    · exact hx.elim
  · unfold New at hx ⊢
    intro b hb
    exact hk _ _ _ (hx b hb) ⟨(fun _ _ hh => by cases hh), fun _ hh => hh.elim, fun _ _ => Heap.le_set _ hb⟩
theorem load_env {e' : Env} {ti : TI} {x : Slot} (hb : ∀ u, x.refs u → e'.b u = e.b u) (hx : load ti x e h K) : ∃ v, K (.v v) none h ∧ ∀ K' : Slot → Bx → Heap → Prop, K' (.v v) none h → load ti x e' h K' := by
  cases x with
  | l u off =>
    have hr : rdBox e' u off ti.size = rdBox e u off ti.size := by unfold rdBox; rw [hb u rfl]
    unfold load at hx ⊢
    simp only [hr] at hx ⊢
    cases hvs : rdBox e u off ti.size with
    | none => rw [hvs] at hx; exact hx.elim
    | some vs =>
      rw [hvs] at hx
      cases hag : ti.agg with
      | true =>
        simp only [hag, forceL_eq] at hx
        exact ⟨_, hx, fun K' hk => by simp only [forceL_eq]; exact hk⟩
      | false =>
        simp only [hag] at hx
        rcases vs with _ | ⟨v, _ | _⟩
        · exact hx.elim
        · exact ⟨_, hx, fun K' hk => hk⟩
        · exact hx.elim
  | r u k => exact hx.elim
  | x => exact hx.elim
  | v v =>
    obtain ⟨ss, h1, h2⟩ := load_fun hx
    unfold load at hx ⊢
    split at hx
    · rename_i hh; cases hh
    · rename_i b off hh
      cases hh
      cases hag : ti.agg with
      | true =>
        simp only [hag] at hx
        unfold LdN at hx ⊢
        obtain ⟨vs, hvs, hx⟩ := hx
        exact ⟨_, hx, fun K' hk => ⟨vs, hvs, hk⟩⟩
      | false =>
        simp only [hag] at hx
        split at hx
        · unfold Ld at hx ⊢
          obtain ⟨v, hv, hx⟩ := hx
          exact ⟨_, hx, fun K' hk => ⟨v, hv, hk⟩⟩
        · exact hx.elim
    · exact hx.elim
theorem raw_env {e' : Env} {Kv Kv' : Value → Heap → Prop} (hg : ∀ y ∈ o.op.operands, e'.get y = e.get y) (hx : Raw P o e h Kv) (hk : ∀ v h', Kv v h' → Kv' v h') : Raw P o e' h Kv' := by
  unfold Raw at hx ⊢
  refine ⟨fun x hm => by rw [hg x hm]; exact hx.1 x hm, fun ρ hρ w hv => ?_⟩
  obtain ⟨v, w', h', h1, h2, h3⟩ := hx.2 ρ (fun x hm => by rw [← hg x hm]; exact hρ x hm) w hv
  exact ⟨v, w', h', h1, h2, hk _ _ h3⟩
theorem CallsH.mono {f : FuncId} {args : List Value} {R R' : Out → Heap → Prop} (hx : CallsH P f args h R) (hr : ∀ o h', R o h' → R' o h') : CallsH P f args h R' := by
  intro w hv
  refine (hx w hv).mono ?_
  rintro e w' ⟨h', m, hm⟩
  refine ⟨h', m, ?_⟩
  cases e <;> first | exact hr _ _ hm | exact hm
theorem store_env {e' : Env} {ti : TI} {x : Slot} {v : Value} {K' : Slot → Bx → Heap → Prop} (hb : ∀ u, x.refs u → e'.b u = e.b u) (hx : store ti x v e h K)
    (hk : ∀ s bx h', K s bx h' → (s = .v undef ∧ ∀ u cs, bx = some (u, cs) → x.refs u) → K' s bx h') : store ti x v e' h K' := by
  unfold store at hx ⊢
  obtain ⟨vs, hx, h1⟩ := cellsAt_fun hx
  refine h1 _ ?_
  split at hx
  · exact hx.elim
  · cases x with
    | l u off =>
      simp only at hx ⊢
      rw [hb u rfl]
      split at hx
      · split at hx
        · exact hk _ _ _ hx ⟨rfl, fun u' cs' hh => by simp only [Option.some.injEq, Prod.mk.injEq] at hh; exact hh.1⟩
        · exact hx.elim
      · exact hx.elim
    | v v =>
      cases v with
      | pointer p =>
        rcases p with _ | ⟨b, off, _ | sp⟩
        · exact hx.elim
        · simp only at hx ⊢
          unfold St at hx ⊢
          obtain ⟨cs, t, g1, g2, g3⟩ := hx
          exact ⟨cs, t, g1, g2, hk _ _ _ g3 ⟨rfl, (fun _ _ hh => by cases hh)⟩⟩
        · exact hx.elim
      | _ => exact hx.elim
    | _ => exact hx.elim
theorem appArg_env {e' : Env} {size : Nat} {x : Slot} {Kc : Nat → List Value → Prop} (hb : ∀ u, x.refs u → e'.b u = e.b u) (hx : appArg e size x h Kc) :
    ∃ m vs, Kc m vs ∧ ∀ Kd : Nat → List Value → Prop, Kd m vs → appArg e' size x h Kd := by
  unfold appArg at hx ⊢
  split at hx
  · rename_i t k
    simp only [hb t rfl]
    split at hx
    · split at hx
      · rename_i hl; exact ⟨_, _, hx, fun _ hk => by (try simp only [hl]); exact hk⟩
      · exact hx.elim
    · exact hx.elim
  · unfold LdN at hx ⊢
    obtain ⟨vs, hvs, hx⟩ := hx
    exact ⟨_, _, hx, fun _ hk => ⟨vs, hvs, hk⟩⟩
  · exact ⟨_, _, hx, fun _ hk => hk⟩
  · exact hx.elim
theorem App.mono {bytes size : Nat} {zero : List Value} {el : TypeId} {p : Option Addr} {n cap m : Nat} {vs : List Value} {Kv Kv' : Value → Heap → Prop} (hx : App bytes size zero el h p n cap m vs Kv) (hk : ∀ v h', Kv v h' → Kv' v h') :
    App bytes size zero el h p n cap m vs Kv' := by
  unfold App at hx ⊢
  refine ⟨fun hle => ?_, fun hlt => ?_⟩
  · obtain ⟨h1, h2⟩ := hx.1 hle
    refine ⟨h1, ?_⟩
    rcases p with _ | ⟨b, off, _ | sp⟩
    · exact ⟨h2.1, hk _ _ h2.2⟩
    · obtain ⟨cs, t, h3, h4, h5⟩ := h2
      exact ⟨cs, t, h3, h4, hk _ _ h5⟩
    · exact h2.elim
  · obtain ⟨h1, h2, old, h3, h4⟩ := hx.2 hlt
    exact ⟨h1, h2, old, h3, fun b c hb hc => hk _ _ (h4 b c hb hc)⟩
theorem callFn_step {fv : Value} {args : List Value} {K' : Slot → Bx → Heap → Prop} (hx : callFn P S true fv args h K E) (hk : ∀ s bx h', K s bx h' → (∃ v, s = .v v) → bx = none → h.le h' → K' s bx h') : callFn P S true fv args h K' E := by
  unfold callFn at hx ⊢
  split at hx
  · split at hx
    · rw [forceL_eq] at hx ⊢
      unfold CallX at hx ⊢
      refine hx.mono fun o h' hh => ?_
      cases o with
      | ret v => exact ⟨hh.1, hk _ _ _ hh.2 ⟨v, rfl⟩ rfl hh.1⟩
      | pan c => exact hh
    · exact hx.elim
  · exact hx.elim

theorem refs_nil {s : Slot} {u : Nat} (hs : (∃ v, s = .v v) ∨ s = .x) (hr : s.refs u) : False := by
  rcases hs with ⟨v, rfl⟩ | rfl <;> exact hr
theorem cls_W {o : Oper} (hw : isW o.op = true) : cls F o = .W := by
  obtain ⟨dst, op, ty, pos, after, guard⟩ := o
  cases op with
  | call c =>
    obtain ⟨callee, args, ts⟩ := c
    cases callee with
    | value f => cases hw
    | invoke r m => rfl
    | builtin b => cases b <;> first | rfl | cases hw
  | _ => first | rfl | cases hw
theorem exec_step {e' : Env} {K' : Slot → Bx → Heap → Prop} (ha : Agree F o e e') (hx : exec P S F true o e h K E)
    (hk : ∀ s bx h', K s bx h' → Res F o e h s bx h' → K' s bx h') : exec P S F true o e' h K' E := by
  obtain ⟨dst, op, ty, pos, after, guard⟩ := o
  have hkv : ∀ v, K (.v v) none h → K' (.v v) none h := fun v hv => hk _ _ _ hv Res.plain
  have hraw : ∀ W : Bool, W = isW op → (match true && !W with
    | true => False
    | false => Raw P ⟨dst, op, ty, pos, after, guard⟩ e h fun v h' => K (.v v) none h') → (match true && !W with
    | true => False
    | false => Raw P ⟨dst, op, ty, pos, after, guard⟩ e' h fun v h' => K' (.v v) none h') := by
    intro W hW hr
    cases W with
    | false => exact hr
    | true =>
      refine raw_env ha.get hr fun v h' hv => hk _ _ _ hv ⟨(fun _ _ hh => by cases hh), (fun _ hh => hh.elim), fun hc _ => ?_⟩
      exact absurd (cls_W hW.symm) hc
  cases op with
  | move y =>
    have hg := ha.get y (by simp [Op.operands])
    simp only [exec, hg] at hx ⊢
    cases hy : e.get y <;> simp only [hy] at hx <;> first | exact hx.elim | exact hk _ _ _ hx (Res.same (y := y) (by simp [Op.operands]) hy)
  | assign y =>
    have hg := ha.get y (by simp [Op.operands])
    simp only [exec, hg] at hx ⊢
    cases hy : e.get y <;> simp only [hy] at hx <;> first | exact hx.elim | exact hk _ _ _ hx (Res.same (y := y) (by simp [Op.operands]) hy)
  | pick c y z =>
    have hgc := ha.get c (by simp [Op.operands])
    have hgy := ha.get y (by simp [Op.operands])
    have hgz := ha.get z (by simp [Op.operands])
    simp only [exec, hgc, hgy, hgz] at hx ⊢
    split at hx
    · rename_i t ht
      cases t with
      | true =>
        have hx : (match e.get y with | .x => False | s => K s none h) := hx
        show (match e.get y with | .x => False | s => K' s none h)
        cases hy : e.get y <;> simp only [hy] at hx <;> first | exact hx.elim | exact hk _ _ _ hx (Res.same (y := y) (by simp [Op.operands]) hy)
      | false =>
        have hx : (match e.get z with | .x => False | s => K s none h) := hx
        show (match e.get z with | .x => False | s => K' s none h)
        cases hy : e.get z <;> simp only [hy] at hx <;> first | exact hx.elim | exact hk _ _ _ hx (Res.same (y := z) (by simp [Op.operands]) hy)
    · exact hx.elim
  | alloc t =>
    simp only [exec] at hx ⊢
    split at hx
    · exact newVar_step (o := ⟨dst, .alloc t, ty, pos, after, guard⟩) ha.dst hx hk
    · exact hx.elim
  | box t y =>
    have hg := ha.get y (by simp [Op.operands])
    simp only [exec, hg] at hx ⊢
    split at hx
    · obtain ⟨cs, hx, h3⟩ := cellsAt_fun hx
      exact h3 _ (newVar_step (o := ⟨dst, .box t y, ty, pos, after, guard⟩) ha.dst hx hk)
    · exact hx.elim
  | build t ps =>
    have hg : ∀ p ∈ ps.toList, e'.get p.2 = e.get p.2 := fun p hp => ha.get p.2 (by simp only [Op.operands]; exact List.mem_toArray.2 (List.mem_map.2 ⟨p, hp, rfl⟩))
    simp only [exec] at hx ⊢
    unfold bld at hx ⊢
    split at hx
    · split at hx
      · exact hx.elim
      · obtain ⟨qs, hx, h1⟩ := parts_fun _ _ hx
        refine parts_env _ _ hg (h1 _ ?_)
        split at hx
        · rw [forceL_eq] at hx ⊢
          exact hkv _ hx
        · exact hx.elim
    · exact hx.elim
  | buildSlice t k ps =>
    have hg : ∀ p ∈ ps.toList, e'.get p.2 = e.get p.2 := fun p hp => ha.get p.2 (by simp only [Op.operands]; exact List.mem_toArray.2 (List.mem_map.2 ⟨p, hp, rfl⟩))
    simp only [exec] at hx ⊢
    split at hx
    · split at hx
      · split at hx
        · obtain ⟨qs, hx, h3⟩ := parts_fun _ _ hx
          refine parts_env _ _ hg (h3 _ ?_)
          split at hx
          · exact newRow_step (o := ⟨dst, .buildSlice t k ps, ty, pos, after, guard⟩) ha.dst hx hk
          · exact hx.elim
        · exact hx.elim
      · exact hx.elim
    · exact hx.elim
  | load t y =>
    have hg := ha.get y (by simp [Op.operands])
    have hb : ∀ u, (e.get y).refs u → e'.b u = e.b u := by
      rcases ha.box with hc | hb
      · simp only [cls] at hc
        split at hc <;> cases hc
      · exact hb y (by simp [Op.operands])
    simp only [exec, hg] at hx ⊢
    split at hx
    · split at hx
      · split at hx
        · rename_i u off hy
          obtain ⟨v, h1, h2⟩ := load_env (e' := e') (fun u' hu => hb u' (by rw [hy]; exact hu)) hx
          exact h2 _ (hkv _ h1)
        · exact hx.elim
      · obtain ⟨v, h1, h2⟩ := load_env (e' := e') hb hx
        exact h2 _ (hkv _ h1)
    · exact hx.elim
  | store t y z =>
    have hgy := ha.get y (by simp [Op.operands])
    have hgz := ha.get z (by simp [Op.operands])
    have hb : ∀ u, (e.get y).refs u → e'.b u = e.b u := by
      rcases ha.box with hc | hb
      · simp [cls, isW] at hc
      · exact hb y (by simp [Op.operands])
    simp only [exec, hgy, hgz] at hx ⊢
    split at hx
    · refine store_env hb hx fun s bx h' hK hr => hk _ _ _ hK ?_
      refine ⟨fun u cs hh => .inr ⟨by simp [cls, isW], y, by simp [Op.operands], hr.2 u cs hh⟩, fun u hu => ?_, fun hc _ => ?_⟩
      · rw [hr.1] at hu; exact hu.elim
      · exact absurd (by simp [cls, isW]) hc
    · exact hx.elim
  | nilCheck y =>
    have hg := ha.get y (by simp [Op.operands])
    simp only [exec, hg] at hx ⊢
    split at hx
    · rename_i hy; exact hk _ _ _ hx (Res.same (y := y) (by simp [Op.operands]) hy)
    · exact hkv _ hx
    · exact hkv _ hx
    · exact hkv _ hx
    · exact hraw _ rfl hx
  | binOp op t y z u =>
    have hgy := ha.get y (by simp [Op.operands])
    have hgz := ha.get z (by simp [Op.operands])
    simp only [exec, hgy, hgz] at hx ⊢
    split at hx
    · split at hx
      · obtain ⟨v, hx, h1⟩ := binInt_fun hx
        exact h1 _ (hkv _ hx)
      · exact hraw _ rfl hx
    · split at hx
      · split at hx
        · exact hkv _ hx
        · exact hkv _ hx
        · exact hraw _ rfl hx
      · exact hraw _ rfl hx
    · exact hraw _ rfl hx
  | unOp op t y =>
    have hg := ha.get y (by simp [Op.operands])
    simp only [exec, hg] at hx ⊢
    split at hx
    · exact hkv _ hx
    · rw [ar_iff] at hx ⊢; exact hkv _ hx
    · exact hraw _ rfl hx
  | convert s t y =>
    have hg := ha.get y (by simp [Op.operands])
    simp only [exec, hg] at hx ⊢
    split at hx
    · split at hx
      · rw [ar_iff] at hx ⊢; exact hkv _ hx
      · exact hraw _ rfl hx
    · exact hraw _ rfl hx
  | makeInterface t y =>
    have hg := ha.get y (by simp [Op.operands])
    simp only [exec, hg] at hx ⊢
    split at hx
    · split at hx
      · exact hx.elim
      · exact hkv _ hx
    · exact hx.elim
  | makeFunc f fs cs =>
    simp only [exec] at hx ⊢
    obtain ⟨vs, hx, h1⟩ := vals_fun _ _ hx
    obtain ⟨us, hx, h2⟩ := vals_fun _ _ hx
    refine vals_env _ _ (fun x hm => ha.get x (by simp only [Op.operands]; exact Array.mem_append.2 (.inl (Array.mem_toList_iff.1 hm)))) (h1 _ ?_)
    exact vals_env _ _ (fun x hm => ha.get x (by simp only [Op.operands]; exact Array.mem_append.2 (.inr (Array.mem_toList_iff.1 hm)))) (h2 _ (hkv _ hx))
  | slice t y lo hi mx =>
    have hg := ha.get y (by simp [Op.operands])
    have hlo : optGet e' lo = optGet e lo := by
      cases lo with
      | none => rfl
      | some x => simp only [optGet]; rw [ha.get x (by simp [Op.operands])]
    have hhi : optGet e' hi = optGet e hi := by
      cases hi with
      | none => rfl
      | some x => simp only [optGet]; rw [ha.get x (by simp [Op.operands])]
    simp only [exec, hg, hlo, hhi] at hx ⊢
    split at hx
    · split at hx
      · obtain ⟨v, hx, h1⟩ := sliceOf_fun hx
        exact h1 _ (hkv _ hx)
      · exact hraw _ rfl hx
    · exact hraw _ rfl hx
  | fieldAddr t y i =>
    have hg := ha.get y (by simp [Op.operands])
    simp only [exec, hg] at hx ⊢
    split at hx
    · split at hx
      · split at hx
        · rename_i u off hy
          exact hk _ _ _ hx ⟨(fun _ _ hh => by cases hh), (fun u' hh => .inl ⟨y, by simp [Op.operands], by rw [hy]; exact hh⟩), fun _ _ => Heap.le_refl h⟩
        · exact hkv _ hx
        · exact hx.elim
      · exact hx.elim
    · exact hx.elim
  | field t y i =>
    have hg := ha.get y (by simp [Op.operands])
    simp only [exec, hg] at hx ⊢
    split at hx
    · split at hx
      · split at hx
        · rename_i cs tu hy htu
          split at hx
          · cases hag : tu.agg with
            | true => simp only [hag, forceL_eq] at hx ⊢; exact hkv _ hx
            | false =>
              simp only [hag] at hx
              simp only
              split at hx
              · exact hkv _ hx
              · exact hx.elim
          · exact hx.elim
        · exact hx.elim
      · exact hx.elim
    · exact hx.elim
  | indexAddr t y z =>
    have hgy := ha.get y (by simp [Op.operands])
    have hgz := ha.get z (by simp [Op.operands])
    simp only [exec, hgy, hgz] at hx ⊢
    split at hx
    · split at hx
      · split at hx
        · obtain ⟨h1, hx⟩ := ob_iff.1 hx; exact ob_iff.2 ⟨h1, hkv _ hx⟩
        · rename_i hy
          obtain ⟨h1, hx⟩ := ob_iff.1 hx
          exact ob_iff.2 ⟨h1, hk _ _ _ hx ⟨(fun _ _ hh => by cases hh), (fun u' hh => .inl ⟨y, by simp [Op.operands], by rw [hy]; exact hh⟩), fun _ _ => Heap.le_refl h⟩⟩
        · exact hx.elim
      · split at hx
        · obtain ⟨h1, hx⟩ := ob_iff.1 hx; exact ob_iff.2 ⟨h1, hkv _ hx⟩
        · rename_i hy
          obtain ⟨h1, hx⟩ := ob_iff.1 hx
          exact ob_iff.2 ⟨h1, hk _ _ _ hx ⟨(fun _ _ hh => by cases hh), (fun u' hh => .inl ⟨y, by simp [Op.operands], by rw [hy]; exact hh⟩), fun _ _ => Heap.le_refl h⟩⟩
        · exact hx.elim
      · exact hx.elim
    · exact hx.elim
  | index t y z =>
    have hgy := ha.get y (by simp [Op.operands])
    have hgz := ha.get z (by simp [Op.operands])
    simp only [exec, hgy, hgz] at hx ⊢
    split at hx
    · split at hx
      · obtain ⟨h1, hx⟩ := ob_iff.1 hx; exact ob_iff.2 ⟨h1, hkv _ hx⟩
      · exact hraw _ rfl hx
    · exact hraw _ rfl hx
  | extract y i =>
    have hg := ha.get y (by simp [Op.operands])
    simp only [exec, hg] at hx ⊢
    split at hx
    · split at hx
      · exact hkv _ hx
      · exact hx.elim
    · exact hx.elim
  | makeSlice t y z =>
    have hgy := ha.get y (by simp [Op.operands])
    have hgz := ha.get z (by simp [Op.operands])
    simp only [exec, hgy, hgz] at hx ⊢
    split at hx
    · split at hx
      · obtain ⟨h1, hx⟩ := ob_iff.1 hx
        refine ob_iff.2 ⟨h1, ?_⟩
        unfold New at hx ⊢
        exact fun b hb => hk _ _ _ (hx b hb) ⟨(fun _ _ hh => by cases hh), (fun _ hh => hh.elim), fun _ _ => Heap.le_set _ hb⟩
      · exact hx.elim
    · exact hx.elim
  | panic y =>
    have hg := ha.get y (by simp [Op.operands])
    simp only [exec, hg] at hx ⊢
    exact hx
  | call c =>
    obtain ⟨callee, args, ts⟩ := c
    cases callee with
    | value f =>
      have hg := ha.get f (by simp [Op.operands, Call.operands])
      simp only [exec, hg] at hx ⊢
      split at hx
      · obtain ⟨vs, hx, h1⟩ := vals_fun _ _ hx
        refine vals_env _ _ (fun x hm => ha.get x (by simp [Op.operands, Call.operands, Array.mem_toList_iff.1 hm])) (h1 _ ?_)
        refine callFn_step hx fun s bx h' hK hs hbx hle => hk _ _ _ hK ?_
        obtain ⟨v, rfl⟩ := hs
        subst hbx
        exact ⟨(fun _ _ hh => by cases hh), (fun _ hh => hh.elim), fun _ _ => hle⟩
      · exact hx.elim
    | invoke r m => exact hraw _ rfl hx
    | builtin b =>
      cases b with
      | len =>
        simp only [exec] at hx ⊢
        split at hx
        · rename_i y hargs
          have hg := ha.get y (by simp [Op.operands, Call.operands, Array.mem_toList_iff.1 (show y ∈ args.toList by rw [hargs]; simp)])
          simp only [hg]
          split at hx
          · split at hx
            · exact hkv _ hx
            · exact hx.elim
          · split at hx
            · exact hkv _ hx
            · exact hx.elim
          · exact hraw _ rfl hx
        · exact hx.elim
      | max =>
        simp only [exec] at hx ⊢
        split at hx
        · rename_i y z hargs
          have hgy := ha.get y (by simp [Op.operands, Call.operands, Array.mem_toList_iff.1 (show y ∈ args.toList by rw [hargs]; simp)])
          have hgz := ha.get z (by simp [Op.operands, Call.operands, Array.mem_toList_iff.1 (show z ∈ args.toList by rw [hargs]; simp)])
          simp only [hgy, hgz]
          split at hx
          · split at hx
            · exact hkv _ hx
            · exact hraw _ rfl hx
          · exact hraw _ rfl hx
        · exact hraw _ rfl hx
      | min =>
        simp only [exec] at hx ⊢
        split at hx
        · rename_i y z hargs
          have hgy := ha.get y (by simp [Op.operands, Call.operands, Array.mem_toList_iff.1 (show y ∈ args.toList by rw [hargs]; simp)])
          have hgz := ha.get z (by simp [Op.operands, Call.operands, Array.mem_toList_iff.1 (show z ∈ args.toList by rw [hargs]; simp)])
          simp only [hgy, hgz]
          split at hx
          · split at hx
            · exact hkv _ hx
            · exact hraw _ rfl hx
          · exact hraw _ rfl hx
        · exact hraw _ rfl hx
      | cap =>
        simp only [exec] at hx ⊢
        split at hx
        · rename_i y hargs
          have hg := ha.get y (by simp [Op.operands, Call.operands, Array.mem_toList_iff.1 (show y ∈ args.toList by rw [hargs]; simp)])
          simp only [hg]
          split at hx
          · split at hx
            · exact hkv _ hx
            · exact hx.elim
          · exact hraw _ rfl hx
        · exact hx.elim
      | append =>
        simp only [exec] at hx ⊢
        split at hx
        · rename_i y z t u hargs hts
          have hgy := ha.get y (by simp [Op.operands, Call.operands, Array.mem_toList_iff.1 (show y ∈ args.toList by rw [hargs]; simp)])
          have hmz : z ∈ (⟨dst, .call ⟨.builtin .append, args, ts⟩, ty, pos, after, guard⟩ : Oper).op.operands := by
            simp [Op.operands, Call.operands, Array.mem_toList_iff.1 (show z ∈ args.toList by rw [hargs]; simp)]
          have hgz := ha.get z hmz
          have hb : ∀ u, (e.get z).refs u → e'.b u = e.b u := by
            rcases ha.box with hc | hb
            · simp [cls] at hc
            · exact hb z hmz
          simp only [hgy, hgz]
          split at hx
          · split at hx
            · split at hx
              · obtain ⟨m, vs, hx, h1⟩ := appArg_env (e' := e') hb hx
                exact h1 _ (hx.mono fun v h' hv => hk _ _ _ hv ⟨(fun _ _ hh => by cases hh), (fun _ hh => hh.elim), fun _ hc => absurd (by simp [cls]) hc⟩)
              · exact hx.elim
            · exact hx.elim
          · exact hx.elim
        · exact hx.elim
      | _ => exact hraw _ rfl hx
  | _ => exact hraw _ rfl hx

/-! ### A region, in every order -/
def gd (ops : Array Oper) (o : Oper) (e : Env) : Option Bool :=
  match o.guard with
  | none => some true
  | some (j, w) => match ops[j]? with
    | none => some false
    | some o' => match o'.dst with
      | none => some false
      | some d => match e.s d with
        | .v (.bool b) => some (b == w)
        | .v (.tuple _) => some false
        | _ => none
def one (P : Program) (S : Sig) (F : Fs) (ops : Array Oper) (o : Oper) (e : Env) (h : Heap) (K : Env → Heap → Prop) (E : List PanicEntry → Heap → Prop) : Prop :=
  match gd ops o e with
  | some true => exec P S F true o e h (fun s bx h' => K (e.put o.dst s bx) h') E
  | some false => K (e.put o.dst (.v undef) none) h
  | none => False
theorem put_same {d : Nat} {s : Slot} (hs : e.s d = s) : e.put (some d) s none = e := by
  unfold Env.put
  cases e with
  | mk es eb =>
    simp only at hs ⊢
    congr 1
    funext t
    split
    · rename_i hh; rw [hh, hs]
    · rfl
theorem oneOp_one {ops : Array Oper} {K : Env → Heap → Prop} : oneOp P S F true ops.toList o e h K E ↔ one P S F ops o e h K E := by
  unfold oneOp one guardOf gd
  cases hg : o.guard with
  | none => exact Iff.rfl
  | some jw =>
    obtain ⟨j, w⟩ := jw
    simp only [nth_eq, Array.getElem?_toList]
    cases ho : ops[j]? with
    | none => exact Iff.rfl
    | some o' =>
      simp only
      cases hd : o'.dst with
      | none => exact Iff.rfl
      | some d =>
        simp only
        cases hs : e.s d with
        | v x =>
          cases x with
          | bool b =>
            simp only
            cases b <;> cases w <;> simp only [put_same hs] <;> exact Iff.rfl
          | _ => exact Iff.rfl
        | _ => exact Iff.rfl
def dAll (P : Program) (S : Sig) (F : Fs) (ops : Array Oper) (K : Env → Heap → Prop) (E : List PanicEntry → Heap → Prop) : Nat → Array Bool → Env → Heap → Prop
  | 0, listed, e, h => Region.ready .any ops listed = [] ∧ K e h
  | k + 1, listed, e, h => (Region.ready .any ops listed = [] → K e h) ∧
    ∀ i ∈ Region.ready .any ops listed, ∃ o, ops[i]? = some o ∧ one P S F ops o e h (fun e' h' => dAll P S F ops K E k (listed.setIfInBounds i true) e' h') E
theorem dAll_sound {n : Nat} (hS : SigOk P S) {ops : Array Oper} (hd : ∀ o ∈ ops.toList, ∀ d', o.dst = some d' → d' < n) {K : Env → Heap → Prop} {Q : Exit → Act → World → Prop} {h0 : Heap} {w0 : World}
    (hk : ∀ e' h' β' a' w', K e' h' → Rel n h0 w0 β' e' h' a' w' → Q .normal a' w')
    (hE : ∀ c h' a' w', E c h' → Moves h0 w0 h' w' → a'.defers = [] → Q (.panic c) a' w') :
    ∀ (k : Nat) (listed : Array Bool) (e : Env) (h : Heap) (β : Nat → Nat) (a : Act) (w : World), dAll P S F ops K E k listed e h → Rel n h0 w0 β e h a w → wpAny P .any ops Q k listed a w
  | 0, listed, e, h, β, a, w, hx, r => ⟨hx.1, hk _ _ β _ _ hx.2 r⟩
  | k + 1, listed, e, h, β, a, w, hx, r => ⟨fun h0 => hk _ _ β _ _ (hx.1 h0) r, fun i hi => by
      obtain ⟨o, ho, h1⟩ := hx.2 i hi
      exact oneOp_sound hS ho r (hd o (by rw [← Array.getElem?_toList] at ho; exact List.mem_of_getElem? ho)) (oneOp_one.2 h1) (fun e' h' β' a' w' hK hR => dAll_sound hS hd hk hE k _ e' h' β' a' w' hK hR) hE⟩
def WF (e : Env) : Prop := ∀ t u, (e.s t).refs u → (e.b u).isSome
theorem WF.get (hw : WF e) {y : Operand} {u : Nat} (hr : (e.get y).refs u) : (e.b u).isSome := by
  cases y with
  | tmp t => exact hw t u hr
  | _ => exact hr.elim
theorem Rel.wf {n : Nat} {h0 : Heap} {w0 : World} {β : Nat → Nat} {a : Act} {w : World} (r : Rel n h0 w0 β e h a w) : WF e := by
  intro t u hr
  have := r.slot t
  revert hr this
  cases e.s t <;> intro hr this <;> first | exact hr.elim | (cases hr; exact this.2)
theorem wf_put (hw : WF e) {d : Option Nat} {s : Slot} {bx : Bx} (hs : ∀ u, s.refs u → (e.b u).isSome ∨ ∃ cs, bx = some (u, cs)) : WF (e.put d s bx) := by
  have hb : ∀ u, ((e.b u).isSome ∨ ∃ cs, bx = some (u, cs)) → ((e.put d s bx).b u).isSome := by
    intro u hu
    unfold Env.put
    cases bx with
    | none => rcases hu with hu | ⟨cs, hh⟩
              · exact hu
              · cases hh
    | some uc =>
      obtain ⟨u', cs'⟩ := uc
      simp only
      split
      · rfl
      · rename_i hne
        rcases hu with hu | ⟨cs, hh⟩
        · exact hu
        · simp only [Option.some.injEq, Prod.mk.injEq] at hh; exact absurd hh.1.symm hne
  intro t u hr
  cases d with
  | none => exact hb u (.inl (hw t u hr))
  | some d =>
    simp only [Env.put] at hr
    split at hr
    · exact hb u (hs u hr)
    · exact hb u (.inl (hw t u hr))
theorem get_put {d : Option Nat} {s : Slot} {bx : Bx} {y : Operand} (hne : ∀ d', d = some d' → y ≠ .tmp d') : (e.put d s bx).get y = e.get y := by
  cases y with
  | tmp t =>
    cases d with
    | none => rfl
    | some d =>
      have : t ≠ d := fun hh => hne d rfl (by rw [hh])
      simp [Env.get, Env.put, this]
  | _ => rfl
theorem put_b {d : Option Nat} {s : Slot} {bx : Bx} {u : Nat} (hne : ∀ u' cs, bx = some (u', cs) → u ≠ u') : (e.put d s bx).b u = e.b u := by
  cases bx with
  | none => rfl
  | some uc => obtain ⟨u', cs⟩ := uc; simp [Env.put, hne u' cs rfl]
theorem put_comm {d d' : Option Nat} {s s' : Slot} {bx bx' : Bx} (hd : ∀ t, d = some t → d' ≠ some t) (hb : ∀ u cs, bx = some (u, cs) → ∀ u' cs', bx' = some (u', cs') → u ≠ u') :
    (e.put d s bx).put d' s' bx' = (e.put d' s' bx').put d s bx := by
  unfold Env.put
  congr 1
  · cases d with
    | none => rfl
    | some t =>
      cases d' with
      | none => rfl
      | some t' =>
        have hne : t ≠ t' := fun hh => hd t rfl (by rw [hh])
        funext k
        simp only
        by_cases h1 : k = t
        · subst h1; simp [hne]
        · simp [h1]
  · cases bx with
    | none => rfl
    | some uc =>
      cases bx' with
      | none => rfl
      | some uc' =>
        obtain ⟨u, cs⟩ := uc
        obtain ⟨u', cs'⟩ := uc'
        have hne : u ≠ u' := hb u cs rfl u' cs' rfl
        funext k
        simp only
        by_cases h1 : k = u
        · subst h1; simp [hne]
        · simp [h1]
theorem gd_put {ops : Array Oper} {d : Option Nat} {s : Slot} {bx : Bx} (hne : ∀ d', d = some d' → d' ∉ o.looksAt ops) : gd ops o (e.put d s bx) = gd ops o e := by
  unfold gd
  cases hg : o.guard with
  | none => rfl
  | some jw =>
    obtain ⟨j, w⟩ := jw
    simp only
    cases ho : ops[j]? with
    | none => rfl
    | some o' =>
      simp only
      cases hd : o'.dst with
      | none => rfl
      | some t =>
        simp only
        have : (e.put d s bx).s t = e.s t := by
          cases d with
          | none => rfl
          | some d =>
            have : t ≠ d := fun hh => hne d rfl (by simp [Oper.looksAt, hg, ho, hd, hh])
            simp [Env.put, this]
        rw [this]
theorem looks_ne {ops : Array Oper} {d : Option Nat} (hne : ∀ d', d = some d' → d' ∉ o.looksAt ops) {y : Operand} (hy : y ∈ o.op.operands) : ∀ d', d = some d' → y ≠ .tmp d' := by
  intro d' hd hh
  refine hne d' hd ?_
  unfold Oper.looksAt
  refine List.mem_append.2 (.inl (List.mem_filterMap.2 ⟨y, Array.mem_toList_iff.2 hy, by rw [hh]⟩))

def clsOk : Cls → Cls → Bool
  | .P, _ => true
  | .L, .W => false
  | .L, _ => true
  | .R, .W => false
  | .R, .A => false
  | .R, _ => true
  | _, _ => false
/-- What an operation that may be taken first leaves, and leaves whenever it is taken. -/
structure Stab (P : Program) (S : Sig) (F : Fs) (ops : Array Oper) (o : Oper) (e : Env) (h : Heap) (s : Slot) (bx : Bx) : Prop where
  run : (gd ops o e = some true ∧ ∀ (h' : Heap) (K : Slot → Bx → Heap → Prop) (E : List PanicEntry → Heap → Prop), (cls F o = .R → h.le h') → K s bx h' → exec P S F true o e h' K E) ∨
    (gd ops o e = some false ∧ s = .v undef ∧ bx = none)
  fb : ∀ u cs, bx = some (u, cs) → o.dst = some u ∧ e.b u = none
  fs : ∀ u, s.refs u → (∃ y ∈ o.op.operands, (e.get y).refs u) ∨ ∃ cs, bx = some (u, cs)
theorem Stab.one {ops : Array Oper} {s : Slot} {bx : Bx} (st : Stab P S F ops o e h s bx) {K : Env → Heap → Prop} (hK : K (e.put o.dst s bx) h) : one P S F ops o e h K E := by
  unfold Vc.one
  rcases st.run with ⟨h1, h2⟩ | ⟨h1, rfl, rfl⟩
  · simp only [h1]; exact h2 h _ _ (fun _ => Heap.le_refl h) hK
  · simp only [h1]; exact hK
theorem front {ops : Array Oper} {K : Env → Heap → Prop} {i : Nat} {oi : Oper} (hi : ops[i]? = some oi) (hci : cls F oi = .P ∨ cls F oi = .L ∨ cls F oi = .R) {s : Slot} {bx : Bx} :
    ∀ (k : Nat) (listed : Array Bool) (e : Env) (h : Heap), WF e →
      (∀ j oj, ops[j]? = some oj → j ≠ i → listed.getD j true = false → (∀ d ∈ oj.after, Region.binds .any d = true → d.on ≠ i) → oi.apart ops oj = true ∧ clsOk (cls F oi) (cls F oj) = true) →
      i ∈ Region.ready .any ops listed → Stab P S F ops oi e h s bx →
      dAll P S F ops K E k (listed.setIfInBounds i true) (e.put oi.dst s bx) h → dAll P S F ops K E (k + 1) listed e h := by
  intro k
  induction k with
  | zero =>
    intro listed e h hw hfree hr st H
    refine ⟨fun h0 => (by rw [h0] at hr; cases hr), fun j hj => ?_⟩
    by_cases hji : j = i
    · subst hji; exact ⟨oi, hi, st.one H⟩
    · have := ready_mono hj hji
      rw [H.1] at this
      cases this
  | succ k ih =>
    intro listed e h hw hfree hr st H
    refine ⟨fun h0 => (by rw [h0] at hr; cases hr), fun j hj => ?_⟩
    by_cases hji : j = i
    · subst hji; exact ⟨oi, hi, st.one H⟩
    · obtain ⟨oj, hoj, h1⟩ := H.2 j (ready_mono hj hji)
      refine ⟨oj, hoj, ?_⟩
      obtain ⟨hjun, oj', hoj', hall⟩ := mem_ready.1 hj
      rw [hoj] at hoj'
      cases hoj'
      have hnot : ∀ d ∈ oj.after, Region.binds .any d = true → d.on ≠ i := fun d hd hb heq => by
        have h1 := hall d hd hb
        have h0 := (mem_ready.1 hr).1
        rw [heq] at h1
        rcases Nat.lt_or_ge i listed.size with h' | h'
        · simp [h'] at h0 h1; rw [h0] at h1; cases h1
        · simp [Array.getElem?_eq_none h'] at h1
      obtain ⟨hap, hcl⟩ := hfree j oj hoj hji hjun hnot
      obtain ⟨a1, a2, a3⟩ := Oper.apart_spec hap
      have hget : ∀ y ∈ oj.op.operands, (e.put oi.dst s bx).get y = e.get y := fun y hy => get_put (looks_ne a1 hy)
      have hgeti : ∀ (d : Option Nat) (s' : Slot) (bx' : Bx), d = oj.dst → ∀ y ∈ oi.op.operands, (e.put d s' bx').get y = e.get y := fun d s' bx' hd y hy => get_put (by rw [hd]; exact looks_ne a3 hy)
      have hfree' : ∀ k' ok, ops[k']? = some ok → k' ≠ i → (listed.setIfInBounds j true).getD k' true = false → (∀ d ∈ ok.after, Region.binds .any d = true → d.on ≠ i) → oi.apart ops ok = true ∧ clsOk (cls F oi) (cls F ok) = true := fun k' ok hk hki hun hno => by
        refine hfree k' ok hk hki ?_ hno
        by_cases hjk : j = k'
        · subst hjk; exact hjun
        · rw [getD_set_ne true hjk] at hun; exact hun
      have step : ∀ sj bxj h', dAll P S F ops K E k ((listed.setIfInBounds i true).setIfInBounds j true) ((e.put oi.dst s bx).put oj.dst sj bxj) h' → Res F oj (e.put oi.dst s bx) h sj bxj h' →
          dAll P S F ops K E (k + 1) (listed.setIfInBounds j true) (e.put oj.dst sj bxj) h' := by
        intro sj bxj h' hA hR
        have hbj : ∀ u cs, bxj = some (u, cs) → (oj.dst = some u ∧ e.b u = none) ∨ ((e.b u).isSome ∧ cls F oj = .W) := by
          intro u cs hh
          rcases hR.fb u cs hh with ⟨h1, h2⟩ | ⟨h1, y, hy, h2⟩
          · refine .inl ⟨h1, ?_⟩
            cases bx with
            | none => exact h2
            | some uc =>
              obtain ⟨u', cs'⟩ := uc
              by_cases hu : u = u'
              · subst hu; exact (st.fb u cs' rfl).2
              · rw [put_b (fun u'' cs'' hh' => by simp only [Option.some.injEq, Prod.mk.injEq] at hh'; rw [← hh'.1]; exact hu)] at h2; exact h2
          · rw [hget y hy] at h2; exact .inr ⟨hw.get h2, h1⟩
        have hdne : ∀ u cs, bxj = some (u, cs) → ∀ t, oi.dst = some t → e.b t = none → t ≠ u := by
          intro u cs hh t ht hb heq
          subst heq
          rcases hbj _ _ hh with ⟨h1, _⟩ | ⟨h1, _⟩
          · exact a2 t ht h1
          · rw [hb] at h1; cases h1
        have hw2 : WF (e.put oj.dst sj bxj) := wf_put hw fun u hu => by
          rcases hR.fs u hu with ⟨y, hy, hr'⟩ | hh
          · rw [hget y hy] at hr'; exact .inl (hw.get hr')
          · exact .inr hh
        have hag : Agree F oi e (e.put oj.dst sj bxj) := {
          get := hgeti _ _ _ rfl
          box := by
            rcases hci with hc | hc
            · exact .inl hc
            · right
              intro y hy u hu
              refine put_b fun u' cs' hh heq => ?_
              subst heq
              rcases hbj _ _ hh with ⟨_, h2⟩ | ⟨_, h2⟩
              · have := hw.get hu; rw [h2] at this; cases this
              · rw [h2] at hcl; rcases hc with hc | hc <;> rw [hc] at hcl <;> cases hcl
          dst := fun t ht hb => by rw [put_b (fun u' cs' hh => hdne u' cs' hh t ht hb)]; exact hb }
        refine ih _ _ _ hw2 hfree' (ready_mono hr (Ne.symm hji)) ?_ ?_
        · refine ⟨?_, fun u cs hh => ⟨(st.fb u cs hh).1, hag.dst u (st.fb u cs hh).1 (st.fb u cs hh).2⟩, fun u hu => ?_⟩
          · rcases st.run with ⟨g1, g2⟩ | ⟨g1, g2, g3⟩
            · refine .inl ⟨by rw [gd_put a3]; exact g1, fun h'' K' E' hle hk => ?_⟩
              have := g2 h'' K' E' (fun hc => ?_) hk
              · exact exec_step hag this (fun s bx h' hK _ => hK)
              · refine Heap.le_trans (hR.le ?_ ?_) (hle hc)
                · intro hc'; rw [hc, hc'] at hcl; cases hcl
                · intro hc'; rw [hc, hc'] at hcl; cases hcl
            · exact .inr ⟨by rw [gd_put a3]; exact g1, g2, g3⟩
          · rcases st.fs u hu with ⟨y, hy, hr'⟩ | hh
            · exact .inl ⟨y, hy, by rw [hag.get y hy]; exact hr'⟩
            · exact .inr hh
        · rw [Array.setIfInBounds_comm _ _ hji, put_comm (fun t ht => fun hh => a2 t hh ht) (fun u cs hu u' cs' hu' heq => ?_)]
          · exact hA
          · subst heq
            obtain ⟨g1, g2⟩ := st.fb _ _ hu'
            exact hdne _ _ hu _ g1 g2 rfl
      unfold one at h1 ⊢
      rw [gd_put a1] at h1
      split at h1
      · rename_i hg
        simp only [hg]
        refine exec_step (o := oj) (e := e.put oi.dst s bx) ⟨fun y hy => (hget y hy).symm, ?_, ?_⟩ h1 (fun sj bxj h' hA hR => step sj bxj h' hA hR)
        · right
          intro y hy u hu
          rw [hget y hy] at hu
          refine (put_b fun u' cs' hh heq => ?_).symm
          subst heq
          have := hw.get hu
          rw [(st.fb _ _ hh).2] at this
          cases this
        · intro t ht hb
          cases bx with
          | none => exact hb
          | some uc =>
            obtain ⟨u', cs'⟩ := uc
            by_cases hu : t = u'
            · subst hu; exact (st.fb t cs' rfl).2
            · rw [put_b (fun u'' cs'' hh' => by simp only [Option.some.injEq, Prod.mk.injEq] at hh'; rw [← hh'.1]; exact hu)] at hb; exact hb
      · rename_i hg
        simp only [hg]
        exact step _ _ _ h1 Res.plain
      · exact h1.elim

def planB (F : Fs) (ops : Array Oper) : List Nat → Array Bool → Bool
  | [], listed => (Region.ready .any ops listed).isEmpty
  | i :: r, listed => (Region.ready .any ops listed).contains i && (match ops[i]? with
    | none => false
    | some oi => ((match cls F oi with | .P => true | .L => true | .R => true | _ => false) && (List.range ops.size).all fun j => j == i || listed.getD j true || match ops[j]? with
        | some oj => (oj.after.any fun d => Region.binds .any d && d.on == i) || (oi.apart ops oj && clsOk (cls F oi) (cls F oj))
        | none => true) || Region.ready .any ops listed == [i]) && planB F ops r (listed.setIfInBounds i true)
theorem one_wf {ops : Array Oper} {K : Env → Heap → Prop} (hw : WF e) (hx : one P S F ops o e h K E) : one P S F ops o e h (fun e' h' => WF e' ∧ K e' h') E := by
  unfold one at hx ⊢
  split at hx
  · refine exec_step (e := e) ⟨fun _ _ => rfl, .inr fun _ _ _ _ => rfl, fun _ _ h => h⟩ hx (fun s bx h' hA hR => ⟨wf_put hw fun u hu => ?_, hA⟩)
    rcases hR.fs u hu with ⟨y, hy, hr⟩ | hh
    · exact .inl (hw.get hr)
    · exact .inr hh
  · exact ⟨wf_put hw fun u hu => hu.elim, hx⟩
  · exact hx.elim
theorem one_mono {ops : Array Oper} {K K' : Env → Heap → Prop} (hx : one P S F ops o e h K E) (hk : ∀ e' h', K e' h' → K' e' h') : one P S F ops o e h K' E := by
  unfold one at hx ⊢
  split at hx
  · exact exec_step (e := e) ⟨fun _ _ => rfl, .inr fun _ _ _ _ => rfl, fun _ _ h => h⟩ hx (fun s bx h' hA _ => hk _ _ hA)
  · exact hk _ _ hx
  · exact hx.elim
/-- An operation that may be taken first leaves one thing. -/
theorem one_stab {ops : Array Oper} {K : Env → Heap → Prop} (hc : cls F o = .P ∨ cls F o = .L ∨ cls F o = .R) (hx : one P S F ops o e h K E) : ∃ s bx, Stab P S F ops o e h s bx ∧ K (e.put o.dst s bx) h := by
  unfold one at hx
  split at hx
  · rename_i hg
    have hres := exec_step (e := e) ⟨fun _ _ => rfl, .inr fun _ _ _ _ => rfl, fun _ _ h => h⟩ hx (fun s bx h' hA hR => (⟨hA, hR⟩ : K (e.put o.dst s bx) h' ∧ Res F o e h s bx h'))
    have hfb : ∀ s bx, Res F o e h s bx h → ∀ u cs, bx = some (u, cs) → o.dst = some u ∧ e.b u = none := by
      intro s bx hR u cs hh
      rcases hR.fb u cs hh with h1 | ⟨h1, _⟩
      · exact h1
      · rcases hc with hc | hc | hc <;> rw [hc] at h1 <;> cases h1
    by_cases hc' : cls F o = .R
    · have hload : ∃ s, (K (e.put o.dst s none) h ∧ Res F o e h s none h) ∧ ∀ (h' : Heap) (K' : Slot → Bx → Heap → Prop) (E' : List PanicEntry → Heap → Prop), h.le h' → K' s none h' → exec P S F true o e h' K' E' := by
        obtain ⟨dst, op, ty, pos, after, guard⟩ := o
        cases op with
        | load t y =>
          have hl : inL F.LL dst = false := by
            simp only [cls] at hc'
            split at hc'
            · cases hc'
            · assumption
          simp only [exec] at hres ⊢
          split at hres
          · rename_i ti hti
            simp only [hl] at hres
            obtain ⟨s, h1, h2⟩ := load_fun hres
            exact ⟨s, h1, fun h' K' E' hle hk => by simp only [hl]; exact h2 h' K' hle hk⟩
          · exact hres.elim
        | call c =>
          obtain ⟨callee, args, ts⟩ := c
          cases callee with
          | value f => cases hc'
          | invoke r m => cases hc'
          | builtin b => cases b <;> cases hc'
        | alloc t => simp only [cls] at hc'; split at hc' <;> cases hc'
        | box t y => simp only [cls] at hc'; split at hc' <;> cases hc'
        | buildSlice t k ps => simp only [cls] at hc'; split at hc' <;> cases hc'
        | _ => cases hc'
      obtain ⟨s, ⟨h1, h2⟩, h3⟩ := hload
      exact ⟨s, none, ⟨.inl ⟨hg, fun h' K' E' hle hk => h3 h' K' E' (hle hc') hk⟩, hfb _ _ h2, h2.fs⟩, h1⟩
    · obtain ⟨s, bx, ⟨h1, h2⟩, h3⟩ := exec_fun (by rcases hc with hc | hc | hc
                                                   · exact .inl hc
                                                   · exact .inr hc
                                                   · exact absurd hc hc') hres
      exact ⟨s, bx, ⟨.inl ⟨hg, fun h' K' E' _ hk => h3 h' K' E' hk⟩, hfb _ _ h2, h2.fs⟩, h1⟩
  · rename_i hg
    exact ⟨_, _, ⟨.inr ⟨hg, rfl, rfl⟩, (fun _ _ hh => by cases hh), fun _ hh => hh.elim⟩, hx⟩
  · exact hx.elim
theorem plan_sound {ops : Array Oper} {K : Env → Heap → Prop} : ∀ (p : List Nat) (listed : Array Bool) (e : Env) (h : Heap), planB F ops p listed = true → WF e → wops P S F true ops.toList K E p e h → dAll P S F ops K E p.length listed e h
  | [], listed, e, h, hp, _, hx => ⟨by simpa [planB] using hp, hx⟩
  | i :: r, listed, e, h, hp, hw, hx => by
    simp only [planB, Bool.and_eq_true] at hp
    obtain ⟨⟨h1, h2⟩, h3⟩ := hp
    have hr : i ∈ Region.ready .any ops listed := by simpa using h1
    simp only [wops, nth_eq, Array.getElem?_toList] at hx
    cases hi : ops[i]? with
    | none => rw [hi] at hx; exact hx.elim
    | some oi =>
      simp only [hi] at hx h2
      have hx := one_wf hw (oneOp_one.1 hx)
      have hx := one_mono hx (fun e' h' hh => plan_sound r (listed.setIfInBounds i true) e' h' h3 hh.1 hh.2)
      simp only [Bool.or_eq_true] at h2
      rcases h2 with h2 | h2
      · simp only [Bool.and_eq_true] at h2
        obtain ⟨h4, h5⟩ := h2
        have hc : cls F oi = .P ∨ cls F oi = .L ∨ cls F oi = .R := by
          revert h4
          cases cls F oi <;> simp
        obtain ⟨s, bx, st, hK⟩ := one_stab hc hx
        refine front hi hc r.length listed e h hw (fun j oj hj hne hun hno => ?_) hr st hK
        have hlt : j < ops.size := (Array.getElem?_eq_some_iff.1 hj).1
        have := List.all_eq_true.1 h5 j (by simpa using hlt)
        simp only [hj, Bool.or_eq_true, hun] at this
        rcases this with (h6 | h6) | h6
        · exact absurd (by simpa using h6) hne
        · cases h6
        · rcases h6 with h6 | h6
          · exfalso
            obtain ⟨k, hk, hd⟩ := Array.any_eq_true.1 h6
            simp only [Bool.and_eq_true] at hd
            exact hno _ (Array.getElem_mem hk) hd.1 (by simpa using hd.2)
          · simpa using h6
      · have hre : Region.ready .any ops listed = [i] := by simpa using h2
        refine ⟨fun h0 => (by rw [hre] at h0; cases h0), fun j hj => ?_⟩
        rw [hre] at hj
        simp only [List.mem_singleton] at hj
        subst hj
        exact ⟨oi, hi, hx⟩
def Code.plansB (F : Fs) : Code → Bool
  | .region id ops dr => match dr with
    | true => match planOf id F.plans with
      | some p => p.length == ops.size && planB F ops p (Array.replicate ops.size false)
      | none => true
    | false => true
  | .seq a b => Code.plansB F a && Code.plansB F b
  | .cond _ a b => Code.plansB F a && Code.plansB F b
  | .block _ c => Code.plansB F c
  | .loop c => Code.plansB F c
  | .scope c => Code.plansB F c
  | _ => true
theorem drawsOk_of {n : Nat} (hS : SigOk P S) : ∀ c : Code, Code.dstOk n c = true → Code.plansB F c = true → Code.drawsOk P S F n c := by
  intro c
  induction c with
  | region id ops dr =>
    intro hd hp
    cases dr with
    | false => trivial
    | true =>
      intro p hpl K E Q h0 w0 β e h a w hx r hk hE
      simp only [Code.plansB, hpl, Bool.and_eq_true] at hp
      have hl : p.length = ops.size := by simpa using hp.1
      have := plan_sound p _ e h hp.2 r.wf hx
      rw [hl] at this
      exact dAll_sound hS (dst_of hd) hk hE _ _ _ _ _ _ _ this r
  | seq a b iha ihb =>
    intro hd hp
    simp only [Code.dstOk, Code.plansB, Bool.and_eq_true] at hd hp
    exact ⟨iha hd.1 hp.1, ihb hd.2 hp.2⟩
  | cond c a b iha ihb =>
    intro hd hp
    simp only [Code.dstOk, Code.plansB, Bool.and_eq_true] at hd hp
    exact ⟨iha hd.1 hp.1, ihb hd.2 hp.2⟩
  | block id c ih => exact fun hd hp => ih hd hp
  | loop c ih => exact fun hd hp => ih hd hp
  | scope c ih => exact fun hd hp => ih hd hp
  | _ => intro _ _; trivial
/-- All that is asked of a function's text. -/
def fnOk (F : Fs) (fn : Func) (k : Nat) : Bool := match fn.body with
  | some c => Nat.ble k fn.ntmps && Code.dstOk fn.ntmps c && Code.plansB F c
  | none => false
/-- What the calculus asks of a function: its code, from its arguments, ends as told. -/
def Goal (P : Program) (S : Sig) (F : Fs) (fn : Func) (args : List Value) (h : Heap) (R : Out → Heap → Prop) : Prop := match fn.body with
  | some c => den P S F c (Fin S fn.results.toList R) (startEnv args) h
  | none => False
/-- **What the calculus shows of a function holds of its calls.** -/
theorem calls {S : Sig} (hS : SigOk P S) {f : FuncId} {fn : Func} (hf : P.funcs[f]? = some fn) (F : Fs) {args : List Value} (hok : fnOk F fn args.length = true) {h : Heap} {R : Out → Heap → Prop} (hx : Goal P S F fn args h R) : CallsH P f args h R := by
  unfold fnOk at hok
  unfold Goal at hx
  cases hb : fn.body with
  | none => rw [hb] at hok; cases hok
  | some c =>
    simp only [hb, Bool.and_eq_true] at hok hx
    exact calls_of_den hS F hf hb (Nat.le_of_ble_eq_true hok.1.1) hok.1.2 (drawsOk_of hS c hok.1.2 hok.2) hx
end Go.Vc
