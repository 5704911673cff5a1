/- The calculus of Vc is sound: regions, code, calls. -/
import Derived.Test.YtfihllhldnaofaaVcSound
import Derived.Scope
namespace Go.Vc
set_option linter.constructorNameAsVariable false
set_option linter.unusedVariables false
variable {P : Program} {S : Sig} {n : Nat} {h0 : Heap} {w0 : World} {β : Nat → Nat} {e : Env} {h : Heap} {a : Act} {w : World}

theorem nth_eq : ∀ (l : List Oper) (i : Nat), nth l i = l[i]?
  | [], i => by cases i <;> rfl
  | _ :: _, 0 => rfl
  | _ :: r, i + 1 => by simp [nth, nth_eq r i]
theorem sel_split {b : Bool} {t f : Prop} (hx : sel b t f) : (b = true ∧ t) ∨ (b = false ∧ f) := by
  cases b
  · exact .inr ⟨rfl, hx⟩
  · exact .inl ⟨rfl, hx⟩
/-- A truth that is known is written out. -/
theorem Rel.known (r : Rel n h0 w0 β e h a w) {d : Nat} {b : Bool} (hs : e.s d = .v (.bool b)) : Rel n h0 w0 β (e.put (some d) (.v (.bool b)) none) h a w where
  size := r.size
  nod := r.nod
  slot t := by
    simp only [Env.put]
    by_cases hh : t = d
    · simp only [hh, if_true]; have := r.slot d; rw [hs] at this; exact this
    · simp only [hh, if_false]; have := r.slot t; revert this; cases e.s t <;> exact id
  box := r.box
  inj := r.inj
  mv := r.mv
theorem yielded_eq (r : Rel n h0 w0 β e h a w) {ops : Array Oper} {j d : Nat} {o : Oper} (ho : ops[j]? = some o) (hd : o.dst = some d) {b : Bool} (hs : e.s d = .v (.bool b)) : yielded ops a.tmps j = some b := by
  have := r.slot d
  rw [hs] at this
  have hv : a.tmps.getD d undef = .bool b := this
  have : a.tmps[d]? = some (.bool b) := by
    rw [Array.getD_eq_getD_getElem?] at hv
    cases hg : a.tmps[d]? with
    | none => rw [hg] at hv; simp [undef] at hv
    | some v => rw [hg] at hv; simp at hv; rw [hv]
  simp [yielded, ho, hd, this]
theorem yielded_none (r : Rel n h0 w0 β e h a w) {ops : Array Oper} {j d : Nat} {o : Oper} (ho : ops[j]? = some o) (hd : o.dst = some d) {vs : Array Value} (hs : e.s d = .v (.tuple vs)) : yielded ops a.tmps j = none := by
  have := r.slot d
  rw [hs] at this
  have hv : a.tmps.getD d undef = .tuple vs := this
  cases hg : a.tmps[d]? with
  | none => simp [yielded, ho, hd, hg]
  | some v =>
    rw [Array.getD_eq_getD_getElem?, hg] at hv
    simp at hv
    simp [yielded, ho, hd, hg, hv]
theorem oneOp_sound (hS : SigOk P S) {F : Fs} {x : Bool} {ops : Array Oper} {i : Nat} {o : Oper} (hi : ops[i]? = some o) {K : Env → Heap → Prop} {E : List PanicEntry → Heap → Prop} (r : Rel n h0 w0 β e h a w) (hd : ∀ d', o.dst = some d' → d' < n)
    (hx : oneOp P S F x ops.toList o e h K E) {next : Act → World → Prop} {Q : Exit → Act → World → Prop}
    (hk : ∀ e' h' β' a' w', K e' h' → Rel n h0 w0 β' e' h' a' w' → next a' w')
    (hE : ∀ c h' a' w', E c h' → Moves h0 w0 h' w' → a'.defers = [] → Q (.panic c) a' w') : wpOp P ops Q i next a w := by
  have run : ∀ e1, Rel n h0 w0 β e1 h a w → exec P S F x o e1 h (fun s bx h' => K (e1.put o.dst s bx) h') E → o.wp P a w next Q := by
    intro e1 r1 hx1
    exact exec_sound hS r1 hd hx1 next Q (fun s bx h' β' a' w' hK hR => hk _ _ β' _ _ hK hR) hE
  have skip : ∀ e1, Rel n h0 w0 β e1 h a w → K (e1.put o.dst (.v undef) none) h → next (a.put o.dst undef) w := by
    intro e1 r1 hK
    exact hk _ _ β _ _ hK (r1.put (Moves.refl r1.mv.view) o.dst hd rfl)
  have yes : ∀ e1, Region.wanted o (yielded ops a.tmps) = true → Rel n h0 w0 β e1 h a w → exec P S F x o e1 h (fun s bx h' => K (e1.put o.dst s bx) h') E → wpOp P ops Q i next a w := by
    intro e1 hw r1 hx1
    unfold wpOp
    simp only [hi, hw, if_true]
    exact .inl (run e1 r1 hx1)
  have no : ∀ e1, Region.wanted o (yielded ops a.tmps) = false → Rel n h0 w0 β e1 h a w → K (e1.put o.dst (.v undef) none) h → wpOp P ops Q i next a w := by
    intro e1 hw r1 hx1
    unfold wpOp
    simp only [hi, hw, Bool.false_eq_true, if_false]
    exact skip e1 r1 hx1
  unfold oneOp guardOf at hx
  cases hg : o.guard with
  | none =>
    simp only [hg] at hx
    exact yes e (by simp [Region.wanted, hg]) r hx
  | some jw =>
    obtain ⟨j, want⟩ := jw
    simp only [hg, nth_eq, Array.getElem?_toList] at hx
    cases ho : ops[j]? with
    | none =>
      simp only [ho] at hx
      exact no e (by simp [Region.wanted, hg, yielded, ho]) r hx
    | some o' =>
      simp only [ho] at hx
      cases hd' : o'.dst with
      | none =>
        simp only [hd'] at hx
        exact no e (by simp [Region.wanted, hg, yielded, ho, hd']) r hx
      | some d =>
        simp only [hd'] at hx
        split at hx
        · rename_i b hb
          have hy := yielded_eq r ho hd' hb
          rcases sel_split hx with ⟨rfl, hx⟩ | ⟨rfl, hx⟩
          · cases want with
            | true => exact yes _ (by simp [Region.wanted, hg, hy]) (r.known hb) hx
            | false => exact no _ (by simp [Region.wanted, hg, hy]) (r.known hb) hx
          · cases want with
            | true => exact no _ (by simp [Region.wanted, hg, hy]) (r.known hb) hx
            | false => exact yes _ (by simp [Region.wanted, hg, hy]) (r.known hb) hx
        · rename_i vs hb
          exact no e (by simp [Region.wanted, hg, yielded_none r ho hd' hb]) r hx
        · exact hx.elim
theorem wopsL_sound (hS : SigOk P S) {F : Fs} {ops : Array Oper} (hd : ∀ o ∈ ops.toList, ∀ d', o.dst = some d' → d' < n) {K : Env → Heap → Prop} {E : List PanicEntry → Heap → Prop} {Q : Exit → Act → World → Prop}
    (hk : ∀ e' h' β' a' w', K e' h' → Rel n h0 w0 β' e' h' a' w' → Q .normal a' w')
    (hE : ∀ c h' a' w', E c h' → Moves h0 w0 h' w' → a'.defers = [] → Q (.panic c) a' w') :
    ∀ (l : List Oper) (k : Nat) (e : Env) (h : Heap) (β : Nat → Nat) (a : Act) (w : World), (∀ j, l[j]? = ops[k + j]?) → Rel n h0 w0 β e h a w →
      wopsL P S F ops.toList K E l e h → wpOps P ops Q (List.range' k l.length) a w
  | [], k, e, h, β, a, w, _, r, hx => hk _ _ β _ _ hx r
  | o :: l, k, e, h, β, a, w, hl, r, hx => by
    have h0 : ops[k]? = some o := by simpa using (hl 0).symm
    rw [List.length_cons, List.range'_succ, wpOps_cons]
    refine oneOp_sound hS h0 r (hd o (by rw [← Array.getElem?_toList] at h0; exact List.mem_of_getElem? h0)) hx (fun e' h' β' a' w' hK hR => ?_) hE
    exact wopsL_sound hS hd hk hE l (k + 1) e' h' β' a' w' (fun j => by have := hl (j + 1); simpa [Nat.add_assoc, Nat.add_comm 1 j] using this) hR hK

def Code.dstOk (n : Nat) : Code → Bool
  | .region _ ops _ => ops.toList.all fun o => match o.dst with | some d => Nat.blt d n | none => true
  | .seq a b => Code.dstOk n a && Code.dstOk n b
  | .cond _ a b => Code.dstOk n a && Code.dstOk n b
  | .block _ c => Code.dstOk n c
  | .loop c => Code.dstOk n c
  | .scope c => Code.dstOk n c
  | _ => true
theorem dst_of {n : Nat} {ops : Array Oper} (hx : (ops.toList.all fun o => match o.dst with | some d => Nat.blt d n | none => true) = true) : ∀ o ∈ ops.toList, ∀ d', o.dst = some d' → d' < n := by
  intro o ho d hd
  have := List.all_eq_true.1 hx o ho
  simp only [hd] at this
  exact Nat.le_of_ble_eq_true this

/-- What is to be shown of a region that draws its order: the walk of its plan serves every order. -/
def DrawOk (P : Program) (S : Sig) (F : Fs) (n : Nat) (id : Nat) (ops : Array Oper) : Prop :=
  ∀ p, planOf id F.plans = some p → ∀ (K : Env → Heap → Prop) (E : List PanicEntry → Heap → Prop) (Q : Exit → Act → World → Prop) (h0 : Heap) (w0 : World) (β : Nat → Nat) (e : Env) (h : Heap) (a : Act) (w : World),
    wops P S F true ops.toList K E p e h → Rel n h0 w0 β e h a w → (∀ e' h' β' a' w', K e' h' → Rel n h0 w0 β' e' h' a' w' → Q .normal a' w') →
    (∀ c h' a' w', E c h' → Moves h0 w0 h' w' → a'.defers = [] → Q (.panic c) a' w') → wpAny P .any ops Q ops.size (Array.replicate ops.size false) a w
def Code.drawsOk (P : Program) (S : Sig) (F : Fs) (n : Nat) : Code → Prop
  | .region id ops true => DrawOk P S F n id ops
  | .seq a b => Code.drawsOk P S F n a ∧ Code.drawsOk P S F n b
  | .cond _ a b => Code.drawsOk P S F n a ∧ Code.drawsOk P S F n b
  | .block _ c => Code.drawsOk P S F n c
  | .loop c => Code.drawsOk P S F n c
  | .scope c => Code.drawsOk P S F n c
  | _ => True
/-- The model's ending of a piece of code against the calculus's. -/
def Post (n : Nat) (h0 : Heap) (w0 : World) (K : Ex → Env → Heap → Prop) : Exit → Act → World → Prop
  | .normal, a, w => ∃ β e h, K .normal e h ∧ Rel n h0 w0 β e h a w
  | .exit i, a, w => ∃ β e h, K (.exit i) e h ∧ Rel n h0 w0 β e h a w
  | .ret, a, w => ∃ β e h, K .ret e h ∧ Rel n h0 w0 β e h a w
  | .panic c, a, w => ∃ e h, K (.pan c) e h ∧ Moves h0 w0 h w ∧ a.defers = []
  | .goto _, _, _ => False
  | .outgrown, _, _ => False
theorem slotIn_map (f : Nat → Slot) (t : Nat) : ∀ ls : List Nat, slotIn ls (ls.map f) t = f t ∨ slotIn ls (ls.map f) t = .x
  | [] => .inr rfl
  | i :: ls => by
    simp only [List.map_cons, slotIn]
    split
    · rename_i hh; subst hh; exact .inl rfl
    · exact slotIn_map f t ls
theorem boxIn_map (f : Nat → Option (List Value)) (t : Nat) : ∀ bs : List Nat, boxIn bs (bs.map f) t = if bs.contains t then f t else none
  | [] => rfl
  | i :: bs => by
    simp only [List.map_cons, boxIn]
    by_cases hh : t = i
    · subst hh; simp
    · rw [if_neg hh, boxIn_map f t bs]; simp [hh]
/-- At a loop's head all but what is named may be forgotten. -/
theorem Rel.narrow (r : Rel n h0 w0 β e h a w) (ls bs : List Nat) : Rel n h0 w0 β (envIn ls bs (ls.map e.s) (bs.map e.b)) h a w where
  size := r.size
  nod := r.nod
  slot t := by
    have hb : ∀ u, (envIn ls bs (ls.map e.s) (bs.map e.b)).b u = if bs.contains u then e.b u else none := fun u => boxIn_map e.b u bs
    show slotOk β _ ((slotIn ls (ls.map e.s) t).clean bs) _
    have r0 := r.slot t
    rcases slotIn_map e.s t ls with hh | hh
    · rw [hh]
      revert r0
      cases e.s t with
      | v x => exact id
      | x => exact id
      | l u off =>
        intro r0
        simp only [Slot.clean]
        split
        · rename_i hc; exact ⟨r0.1, by rw [hb, if_pos hc]; exact r0.2⟩
        · trivial
      | r u k =>
        intro r0
        simp only [Slot.clean]
        split
        · rename_i hc; exact ⟨r0.1, by rw [hb, if_pos hc]; exact r0.2⟩
        · trivial
    · rw [hh]; trivial
  box t cs hb := by
    have : (envIn ls bs (ls.map e.s) (bs.map e.b)).b t = if bs.contains t then e.b t else none := boxIn_map e.b t bs
    rw [this] at hb
    split at hb
    · exact r.box t cs hb
    · cases hb
  inj t u ht hu hβ := by
    have hb : ∀ u, (envIn ls bs (ls.map e.s) (bs.map e.b)).b u = if bs.contains u then e.b u else none := fun u => boxIn_map e.b u bs
    rw [hb] at ht hu
    refine r.inj t u ?_ ?_ hβ
    · split at ht
      · exact ht
      · cases ht
    · split at hu
      · exact hu
      · cases hu
  mv := r.mv
theorem wp_loopN {c : Code} {Q : Exit → Act → World → Prop} (I : Nat → Act → World → Prop) (k0 : Nat) (h₀ : I k0 a w)
    (round : ∀ k a w, I k a w → c.wp P (Exit.then (fun a' w' => ∃ m, m < k ∧ I m a' w') Q) a w) : (Code.loop c).wp P Q a w := by
  intro b k cs
  have key : ∀ i a w, I i a w → ∃ e a' w', Q e a' w' ∧ Arrives P (lone (b.at a (.code c :: .inLoop c :: k)) cs w) b k cs e a' w' := by
    intro i
    induction i using Nat.strongRecOn with
    | _ i ih =>
      intro a w hI
      obtain ⟨e, a₁, w₁, hq, harr⟩ := round i a w hI b (.inLoop c :: k) cs
      cases e with
      | normal =>
        obtain ⟨m, hlt, hI₁⟩ := hq
        obtain ⟨e₂, a₂, w₂, hq₂, harr₂⟩ := ih m hlt a₁ w₁ hI₁
        exact ⟨e₂, a₂, w₂, hq₂, .of_steps (Steps.trans harr (.one step_inLoop)) harr₂⟩
      | exit id => exact ⟨_, a₁, w₁, hq, .pass (x := .inLoop c) rfl (fun _ _ => .inl (by simp)) harr⟩
      | goto l => exact ⟨_, a₁, w₁, hq, .pass (x := .inLoop c) rfl (fun _ _ => .inl (by simp)) harr⟩
      | ret => exact ⟨_, a₁, w₁, hq, .pass (x := .inLoop c) rfl (fun _ _ => .inl (by simp)) harr⟩
      | panic ch => exact ⟨_, a₁, w₁, hq, .pass (x := .inLoop c) rfl (fun _ _ => .inl (by simp)) harr⟩
      | outgrown => exact ⟨_, a₁, w₁, hq, .pass (x := .inLoop c) rfl (fun _ _ => .inl (by simp)) harr⟩
  obtain ⟨e, a', w', hq, harr⟩ := key _ a w h₀
  exact ⟨e, a', w', hq, .of_steps (.one step_loop) harr⟩
theorem den_sound (hS : SigOk P S) (F : Fs) : ∀ (c : Code) (K : Ex → Env → Heap → Prop) (β : Nat → Nat) (e : Env) (h : Heap) (a : Act) (w : World),
    Code.dstOk n c = true → Code.drawsOk P S F n c → den P S F c K e h → Rel n h0 w0 β e h a w → c.wp P (Post n h0 w0 K) a w := by
  intro c
  induction c with
  | skip => intro K β e h a w _ _ hx r; exact wp_skip ⟨β, e, h, hx, r⟩
  | label l => intro K β e h a w _ _ hx r; exact wp_label ⟨β, e, h, hx, r⟩
  | exit i => intro K β e h a w _ _ hx r; exact wp_exit ⟨β, e, h, hx, r⟩
  | ret => intro K β e h a w _ _ hx r; exact wp_ret ⟨β, e, h, hx, r⟩
  | region id ops dr =>
    intro K β e h a w hd hp hx r
    cases dr with
    | false =>
      simp only [den] at hx
      refine wp_region ?_
      have := wopsL_sound (Q := Post n h0 w0 K) hS (dst_of hd) (fun e' h' β' a' w' hK hR => ⟨β', e', h', hK, hR⟩) (fun c h' a' w' hE hM hD => ⟨e, h', hE, hM, hD⟩) ops.toList 0 e h β a w (fun j => by simp) r hx
      rw [List.range_eq_range']
      simpa using this
    | true =>
      simp only [den] at hx
      split at hx
      · rename_i p hpl
        refine wp_region_any hS.mix ?_
        exact hp p hpl _ _ _ h0 w0 β e h a _ hx ⟨r.size, r.nod, r.slot, r.box, r.inj, ⟨r.mv.view, r.mv.keep, r.mv.dom, r.mv.size, r.mv.out⟩⟩ (fun e' h' β' a' w' hK hR => ⟨β', e', h', hK, hR⟩) (fun c h' a' w' hE hM hD => ⟨e, h', hE, hM, hD⟩)
      · exact hx.elim
  | seq c1 c2 ih1 ih2 =>
    intro K β e h a w hd hp hx r
    simp only [Code.dstOk, Bool.and_eq_true] at hd
    refine wp_seq (wp_mono (ih1 _ β e h a w hd.1 hp.1 hx r) ?_)
    intro ex a' w' hpost
    cases ex with
    | normal => obtain ⟨β', e', h', hK, hR⟩ := hpost; exact ih2 K β' e' h' a' w' hd.2 hp.2 hK hR
    | exit i => exact hpost
    | ret => exact hpost
    | panic ch => exact hpost
    | goto l => exact hpost
    | outgrown => exact hpost
  | cond c x y ihx ihy =>
    intro K β e h a w hd hp hx r
    simp only [Code.dstOk, Bool.and_eq_true] at hd
    simp only [den] at hx
    split at hx
    · rename_i t ht
      refine wp_cond (r.eval ht) ?_
      rcases sel_split hx with ⟨rfl, hx⟩ | ⟨rfl, hx⟩
      · exact ihx K β e h a w hd.1 hp.1 hx r
      · exact ihy K β e h a w hd.2 hp.2 hx r
    · exact hx.elim
  | block id c ih =>
    intro K β e h a w hd hp hx r
    refine wp_block (wp_mono (ih _ β e h a w hd hp hx r) ?_)
    intro ex a' w' hpost
    cases ex with
    | normal => exact hpost
    | exit i =>
      obtain ⟨β', e', h', hK, hR⟩ := hpost
      simp only [Exit.inBlock]
      by_cases hi : i = id
      · rw [if_pos hi]
        have : Nat.beq i id = true := by rw [hi]; exact Nat.beq_refl id
        simp only [this] at hK
        exact ⟨β', e', h', hK, hR⟩
      · rw [if_neg hi]
        have : Nat.beq i id = false := by
          cases hb : Nat.beq i id with
          | true => exact absurd (Nat.eq_of_beq_eq_true hb) hi
          | false => rfl
        simp only [this] at hK
        exact ⟨β', e', h', hK, hR⟩
    | ret => exact hpost
    | panic ch => exact hpost
    | goto l => exact hpost
    | outgrown => exact hpost
  | loop c ih =>
    intro K β e h a w hd hp hx r
    simp only [den] at hx
    unfold Lp at hx
    obtain ⟨ls, bs, Inv, ⟨k, hk⟩, hstep⟩ := hx
    refine wp_loopN (fun k a w => ∃ β e h, Inv k (ls.map e.s) (bs.map e.b) h ∧ Rel n h0 w0 β e h a w) k ⟨β, e, h, hk, r⟩ ?_
    rintro k1 a1 w1 ⟨β1, e1, h1, hI, r1⟩
    refine wp_mono (ih _ β1 _ h1 a1 w1 hd hp (hstep k1 _ _ h1 hI) (r1.narrow ls bs)) ?_
    intro ex a' w' hpost
    cases ex with
    | normal => obtain ⟨β', e', h', ⟨m, hm, hI'⟩, hR⟩ := hpost; exact ⟨m, hm, β', e', h', hI', hR⟩
    | exit i => exact hpost
    | ret => exact hpost
    | panic ch => exact hpost
    | goto l => exact hpost
    | outgrown => exact hpost
  | scope c ih =>
    intro K β e h a w hd hp hx r
    refine wp_scope_straight (wp_mono (ih K β e h a w hd hp hx r) ?_)
    intro ex a' w' hpost
    cases ex with
    | goto l => exact hpost.elim
    | _ => exact hpost
  | goto l => intro K β e h a w _ _ hx r; exact hx.elim
  | refuse y => intro K β e h a w _ _ hx r; exact hx.elim
  | rangeFunc f ps as b _ _ => intro K β e h a w _ _ hx r; exact hx.elim
/-! ### A whole function -/
def startEnv (args : List Value) : Env := ⟨fun t => match args[t]? with | some v => .v v | none => .v undef, fun _ => none⟩
/-- The results of a function, read when it ends. -/
def resVals (S : Sig) (e : Env) (h : Heap) : List ResultVar → (List Value → Prop) → Prop
  | [], K => K []
  | .tmp t :: r, K => match e.s t with
    | .v v => resVals S e h r fun vs => K (v :: vs)
    | _ => False
  | .cell t ty :: r, K => match S.ty.find ty with
    | some ti => load ti (e.s t) e h fun s _ _ => match s with
      | .v v => resVals S e h r fun vs => K (v :: vs)
      | _ => False
    | none => False
def oneRes (K : Value → Prop) : List Value → Prop
  | [v] => K v
  | vs => K (.tuple ⟨vs⟩)
def Fin (S : Sig) (res : List ResultVar) (R : Out → Heap → Prop) : Ex → Env → Heap → Prop
  | .normal, e, h => resVals S e h res fun vs => oneRes (fun v => R (.ret v) h) vs
  | .ret, e, h => resVals S e h res fun vs => oneRes (fun v => R (.ret v) h) vs
  | .exit _, _, _ => False
  | .pan c, _, h => R (.pan c) h
theorem start_rel {fn : Func} {args : List Value} (hn : args.length ≤ fn.ntmps) (hv : ∀ b o, h b = some o → w.heap[b]? = some o) :
    Rel fn.ntmps h w (fun _ => 0) (startEnv args) h { tmps := args.toArray ++ Array.replicate (fn.ntmps - args.toArray.size) undef, defers := [] } w where
  size := by simp; omega
  nod := rfl
  slot t := by
    simp only [startEnv]
    cases ht : args[t]? with
    | some v =>
      obtain ⟨hlt, hg⟩ := List.getElem?_eq_some_iff.1 ht
      show _ = v
      simp [Array.getD_eq_getD_getElem?, Array.getElem?_append, hlt, hg]
    | none =>
      have hge : args.length ≤ t := by simpa using ht
      show _ = undef
      rw [Array.getD_eq_getD_getElem?, Array.getElem?_append_right (by simpa using hge), Array.getElem?_replicate]
      split <;> rfl
  box t cs hb := by simp [startEnv] at hb
  inj t u ht := by simp [startEnv] at ht
  mv := Moves.refl hv
theorem resVals_sound (hS : SigOk P S) (r : Rel n h0 w0 β e h a w) : ∀ (res : List ResultVar) (K : List Value → Prop), resVals S e h res K →
    ∃ vs, K vs ∧ (res.mapM (m := Sem) fun
      | .tmp t => pure (a.tmps.getD t undef)
      | .cell x t => do loadVar t (← asAddr (a.tmps.getD x undef))).run P w = .ok vs w
  | [], K, hx => ⟨[], hx, rfl⟩
  | .tmp t :: res, K, hx => by
    simp only [resVals] at hx
    split at hx
    · rename_i v hv
      obtain ⟨vs, h1, h2⟩ := resVals_sound hS r res _ hx
      refine ⟨v :: vs, h1, ?_⟩
      have hs := r.slot t
      rw [hv] at hs
      rw [List.mapM_cons]
      simp only [Sem.run_bind, Sem.run_pure, Result.andThen_ok, h2]
      rw [show a.tmps.getD t undef = v from hs]
    · exact hx.elim
  | .cell t ty :: res, K, hx => by
    simp only [resVals] at hx
    split at hx
    · rename_i ti hti
      obtain ⟨ad, v, g1, g2, g3⟩ := load_spec (x := .tmp t) hS r hti hx
      obtain ⟨vs, h1, h2⟩ := resVals_sound hS r res _ g3
      refine ⟨v :: vs, h1, ?_⟩
      have g1 : a.tmps.getD t undef = .pointer (some ad) := g1
      rw [List.mapM_cons]
      have ga : (asAddr (.pointer (some ad))).run P w = .ok ad w := rfl
      simp only [Sem.run_bind, g1, ga, Sem.run_pure, Result.andThen_ok, g2, h2]
    · exact hx.elim

theorem results_sound (hS : SigOk P S) (r : Rel n h0 w0 β e h a w) {fn : Func} {R : Out → Heap → Prop} (hx : resVals S e h fn.results.toList fun vs => oneRes (fun v => R (.ret v) h) vs) :
    ∃ v, (results fn a.tmps).run P w = .ok v w ∧ R (.ret v) h := by
  obtain ⟨vs, h1, h2⟩ := resVals_sound hS r _ _ hx
  have hrun : (results fn a.tmps).run P w = .ok (if h : vs.toArray.size = 1 then vs.toArray[0] else .tuple vs.toArray) w := by
    unfold results
    rw [Array.mapM_eq_mapM_toList]
    simp only [Sem.run_bind, Sem.run_map, Sem.run_pure]
    exact (congrArg (fun r : Result (List Value) => (r.andThen fun a w' => Result.ok a.toArray w').andThen fun a w' => Result.ok (if h : a.size = 1 then a[0] else Value.tuple a) w') h2).trans rfl
  refine ⟨_, hrun, ?_⟩
  match vs, h1 with
  | [], h1 => simpa [oneRes] using h1
  | [v], h1 => simpa [oneRes] using h1
  | u :: v :: r, h1 => simpa [oneRes] using h1
/-- **What the calculus shows of a function's code holds of its calls.** -/
theorem calls_of_den (hS : SigOk P S) (F : Fs) {f : FuncId} {fn : Func} {c : Code} {args : List Value} {R : Out → Heap → Prop} (hf : P.funcs[f]? = some fn) (hb : fn.body = some c) (hn : args.length ≤ fn.ntmps)
    (hd : Code.dstOk fn.ntmps c = true) (hp : Code.drawsOk P S F fn.ntmps c) (hx : den P S F c (Fin S fn.results.toList R) (startEnv args) h) : CallsH P f args h R := by
  intro w hv
  refine calls_of_wp hf hb (wp_mono (den_sound hS F c _ _ _ _ _ _ hd hp hx (start_rel hn hv)) ?_)
  intro ex a' w' hpost
  cases ex with
  | normal => obtain ⟨β, e, h', hK, hR⟩ := hpost; obtain ⟨v, h1, h2⟩ := results_sound hS hR hK; exact ⟨hR.nod, v, h1, h', hR.mv, h2⟩
  | ret => obtain ⟨β, e, h', hK, hR⟩ := hpost; obtain ⟨v, h1, h2⟩ := results_sound hS hR hK; exact ⟨hR.nod, v, h1, h', hR.mv, h2⟩
  | exit i => obtain ⟨β, e, h', hK, hR⟩ := hpost; exact hK.elim
  | panic ch => obtain ⟨e, h', hK, hM, hD⟩ := hpost; exact ⟨hD, h', hM, hK⟩
  | goto l => exact hpost.elim
  | outgrown => exact hpost.elim

end Go.Vc
