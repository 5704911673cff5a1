/- The calculus of Vc is sound: what it shows of a function's code holds of every run of the model. -/
import Derived.Test.YtfihllhldnaofaaVc
import Derived.Laws.Sem
import Derived.Deep.Quiet
import Derived.Lib.Hide
namespace Go.Vc
set_option linter.constructorNameAsVariable false
set_option linter.unusedSimpArgs false
set_option linter.unusedVariables false

/-! ### What is told of types -/
def tdOf : TypeDesc → TD
  | .bool => .bas
  | .int k => .num k
  | .string => .txt
  | .struct fs => .str (fs.toList.map fun f => (f.offset, f.type))
  | .array n e => .arr n e
  | .slice e => .sl e
  | .pointer e => .ptr e
  | .interface _ => .ifc
  | _ => .oth
def aggD : TypeDesc → Bool
  | .struct _ => true
  | .array _ _ => true
  | _ => false
def tiOf (P : Program) (t : TypeId) : Option TI :=
  match P.info? t, P.underlying t with
  | some i, some d => match i.zero with
    | some z => some ⟨i.size, i.bytes, z.cells.toList, aggD d, tdOf d⟩
    | none => none
  | _, _ => none
def Tree.list {α : Type} : Tree α → List (Nat × α)
  | .leaf => []
  | .node l k v r => l.list ++ (k, v) :: r.list
theorem Tree.find_mem {α : Type} (i : Nat) (v : α) : ∀ t : Tree α, t.find i = some v → (i, v) ∈ t.list
  | .leaf, h => by simp [Tree.find] at h
  | .node l k u r, h => by
    unfold Tree.find at h
    split at h
    · rename_i hk
      have := Nat.eq_of_beq_eq_true hk
      simp only [Option.some.injEq] at h
      subst h; subst this
      simp [Tree.list]
    · split at h
      · have := Tree.find_mem i v l h; simp [Tree.list, this]
      · have := Tree.find_mem i v r h; simp [Tree.list, this]
structure SigOk (P : Program) (S : Sig) : Prop where
  ty : ∀ t ti, S.ty.find t = some ti → tiOf P t = some ti
  fn : ∀ g, S.lo ≤ g → g < S.nf → ∃ fn, P.funcs[g]? = some fn ∧ fn.body.isNone = false ∧ (fn.name == "runtime.NumGoroutine") = false
  mix : P.follows .mixedOrders = true
  one : ∀ t ti, S.ty.find t = some ti → ti.agg = false → ti.size = 1
  zero : ∀ t ti, S.ty.find t = some ti → ti.zero.length = ti.size
  flds : ∀ t ti fs, S.ty.find t = some ti → ti.d = .str fs → ∀ f ∈ fs, ∃ tj, S.ty.find f.2 = some tj ∧ tj.size ≠ 0
  elems : ∀ t ti k el, S.ty.find t = some ti → ti.d = .arr k el → (S.ty.find el).isSome
def tiB (S : Sig) (p : TypeId × TI) : Bool := (p.2.agg || p.2.size == 1) && p.2.zero.length == p.2.size && match p.2.d with
  | .str fs => fs.all fun f => match S.ty.find f.2 with
    | some tj => tj.size != 0
    | none => false
  | .arr _ el => (S.ty.find el).isSome
  | _ => true
def fnB (P : Program) (g : Nat) : Bool := match P.funcs[g]? with
  | some fn => !fn.body.isNone && !(fn.name == "runtime.NumGoroutine")
  | none => false
theorem SigOk.mk' {P : Program} {S : Sig} (ht : S.ty.list.map (fun p => tiOf P p.1) = S.ty.list.map (fun p => some p.2))
    (hf : (List.range' S.lo (S.nf - S.lo)).all (fnB P) = true) (hm : P.follows .mixedOrders = true)
    (h1 : S.ty.list.all (tiB S) = true) : SigOk P S where
  ty t ti h := by
    have hm := Tree.find_mem t ti _ h
    have := (List.map_inj_left.1 ht) _ hm
    exact this
  fn g h1 h2 := by
    have := List.all_eq_true.1 hf g (by simp [List.mem_range'_1]; omega)
    unfold fnB at this
    split at this
    · rename_i fn hfn
      simp at this
      exact ⟨fn, hfn, by simpa using this.1, by simpa using this.2⟩
    · simp at this
  mix := hm
  one t ti h ha := by
    have hm := Tree.find_mem t ti _ h
    have := List.all_eq_true.1 h1 _ hm
    simp only [tiB, Bool.and_eq_true] at this
    simpa [ha] using this.1.1
  zero t ti h := by
    have hm := Tree.find_mem t ti _ h
    have := List.all_eq_true.1 h1 _ hm
    simp only [tiB, Bool.and_eq_true] at this
    simpa using this.1.2
  flds t ti fs h hd f hf := by
    have hm := Tree.find_mem t ti _ h
    have := List.all_eq_true.1 h1 _ hm
    simp only [tiB, Bool.and_eq_true, hd] at this
    have := List.all_eq_true.1 this.2 f hf
    split at this
    · rename_i tj htj
      exact ⟨tj, htj, by simpa using this⟩
    · cases this
  elems t ti k el h hd := by
    have hm := Tree.find_mem t ti _ h
    have := List.all_eq_true.1 h1 _ hm
    simp only [tiB, Bool.and_eq_true, hd] at this
    exact this.2
theorem SigOk.info {P : Program} {S : Sig} (hS : SigOk P S) {t : TypeId} {ti : TI} (h : S.ty.find t = some ti) :
    ∃ i z d, P.info? t = some i ∧ i.zero = some z ∧ P.underlying t = some d ∧ i.size = ti.size ∧ i.bytes = ti.bytes ∧ z.cells.toList = ti.zero ∧ aggD d = ti.agg ∧ tdOf d = ti.d := by
  have h := hS.ty t ti h
  unfold tiOf at h
  split at h
  · rename_i i d hi hd
    split at h
    · rename_i z hz
      simp only [Option.some.injEq] at h
      subst h
      exact ⟨i, z, d, hi, hz, hd, rfl, rfl, rfl, rfl, rfl⟩
    · cases h
  · cases h

section
variable {P : Program} {S : Sig} (hS : SigOk P S)
include hS
theorem run_sizeOf {t : TypeId} {ti : TI} (h : S.ty.find t = some ti) (w : World) : (sizeOf t).run P w = .ok ti.size w := by
  obtain ⟨i, z, d, hi, hz, hd, hs, hb, hc, ha, ht⟩ := hS.info h
  simp [sizeOf, typeInfo, hi, hs]
theorem run_zero {t : TypeId} {ti : TI} (h : S.ty.find t = some ti) (w : World) : ∃ z, (zeroValue t).run P w = .ok z w ∧ z.cells.toList = ti.zero := by
  obtain ⟨i, z, d, hi, hz, hd, hs, hb, hc, ha, ht⟩ := hS.info h
  exact ⟨z, by simp [zeroValue, typeInfo, hi, hz], hc⟩
theorem run_under {t : TypeId} {ti : TI} (h : S.ty.find t = some ti) (w : World) : ∃ d, (underlying t).run P w = .ok d w ∧ aggD d = ti.agg ∧ tdOf d = ti.d := by
  obtain ⟨i, z, d, hi, hz, hd, hs, hb, hc, ha, ht⟩ := hS.info h
  exact ⟨d, by simp [underlying, hd], ha, ht⟩
theorem run_isAgg {t : TypeId} {ti : TI} (h : S.ty.find t = some ti) (w : World) : (isAgg t).run P w = .ok ti.agg w := by
  obtain ⟨d, hd, ha, _⟩ := run_under hS h w
  simp only [isAgg, Sem.run_bind, hd, Result.andThen_ok]
  rw [← ha]
  cases d <;> rfl
theorem run_bytes {t : TypeId} {ti : TI} (h : S.ty.find t = some ti) (w : World) : ∃ i, (typeInfo t).run P w = .ok i w ∧ i.bytes = ti.bytes ∧ i.size = ti.size := by
  obtain ⟨i, z, d, hi, hz, hd, hs, hb, hc, ha, ht⟩ := hS.info h
  exact ⟨i, by simp [typeInfo, hi], hb, hs⟩
end

/-! ### The relation between a frame of the model and one of the calculus -/
def slotOk (β : Nat → Nat) (e : Env) : Slot → Value → Prop
  | .v x, v => v = x
  | .l t off, v => v = .pointer (some ⟨β t, off, none⟩) ∧ (e.b t).isSome
  | .r t n, v => v = .slice (some ⟨β t, 0, none⟩) n n ∧ (e.b t).isSome
  | .x, _ => True
structure Rel (n : Nat) (h0 : Heap) (w0 : World) (β : Nat → Nat) (e : Env) (h : Heap) (a : Act) (w : World) : Prop where
  size : a.tmps.size = n
  nod : a.defers = []
  slot : ∀ t, slotOk β e (e.s t) (a.tmps.getD t undef)
  box : ∀ t cs, e.b t = some cs → (∃ ty, w.heap[β t]? = some (.cells cs.toArray ty (0, 0))) ∧ h (β t) = none ∧ w0.heap.size ≤ β t
  inj : ∀ t u, (e.b t).isSome → (e.b u).isSome → β t = β u → t = u
  mv : Moves h0 w0 h w
theorem Moves.refl {h : Heap} {w : World} (hv : ∀ b o, h b = some o → w.heap[b]? = some o) : Moves h w h w :=
  ⟨hv, fun _ _ _ => rfl, fun _ h => .inl h, Nat.le_refl _, rfl, rfl, rfl⟩
theorem Moves.trans {h0 h1 h2 : Heap} {w0 w1 w2 : World} (a : Moves h0 w0 h1 w1) (b : Moves h1 w1 h2 w2) : Moves h0 w0 h2 w2 where
  view := b.view
  keep x hx hn := by
    have h1n : h1 x = none := by
      cases h : h1 x with
      | none => rfl
      | some o => rcases a.dom x (by simp [h]) with h' | h'
                  · exact absurd hn h'
                  · omega
    rw [b.keep x (by have := a.size; omega) h1n, a.keep x hx hn]
  dom x hx := by
    rcases b.dom x hx with h' | h'
    · exact a.dom x h'
    · exact .inr (by have := a.size; omega)
  size := Nat.le_trans a.size b.size
  out := ⟨b.out.1.trans a.out.1, b.out.2.1.trans a.out.2.1, b.out.2.2.trans a.out.2.2⟩
theorem heap_lt {w : World} {b : Nat} {o : Obj} (h : w.heap[b]? = some o) : b < w.heap.size := (Array.getElem?_eq_some_iff.1 h).1
variable {n : Nat} {h0 : Heap} {w0 : World} {β : Nat → Nat} {e : Env} {h : Heap} {a : Act} {w : World}
theorem Rel.fresh (r : Rel n h0 w0 β e h a w) : h w.heap.size = none := by
  cases hh : h w.heap.size with
  | none => rfl
  | some o => have := heap_lt (r.mv.view _ _ hh); omega
theorem Rel.eval (r : Rel n h0 w0 β e h a w) {x : Operand} {v : Value} (hx : e.get x = .v v) : a.eval x = v := by
  cases x with
  | tmp t => have := r.slot t; simp only [Env.get] at hx; rw [hx] at this; exact this
  | const c => simp only [Env.get, Slot.v.injEq] at hx; simp [Act.eval, hx]
  | global g => simp only [Env.get, Slot.v.injEq] at hx; simp [Act.eval, hx]
  | func f => simp only [Env.get, Slot.v.injEq] at hx; simp [Act.eval, hx]
theorem Rel.eval_ok (r : Rel n h0 w0 β e h a w) (x : Operand) : slotOk β e (e.get x) (a.eval x) := by
  cases x with
  | tmp t => exact r.slot t
  | const c => rfl
  | global g => rfl
  | func f => rfl
theorem put_tmps (a : Act) (d : Option Nat) (v : Value) (t : Nat) (hd : ∀ d', d = some d' → d' < a.tmps.size) :
    (a.put d v).tmps.getD t undef = match d with | none => a.tmps.getD t undef | some d' => if t = d' then v else a.tmps.getD t undef := by
  cases d with
  | none => rfl
  | some d' =>
    have h := hd d' rfl
    simp only [Act.put, Array.getD_eq_getD_getElem?, Array.getElem?_setIfInBounds]
    by_cases e : t = d'
    · subst e; simp [h]
    · have e' : ¬ d' = t := fun h => e h.symm
      simp [e, e']
theorem put_size (a : Act) (d : Option Nat) (v : Value) : (a.put d v).tmps.size = a.tmps.size := by cases d <;> simp [Act.put]
theorem put_defers (a : Act) (d : Option Nat) (v : Value) : (a.put d v).defers = a.defers := by cases d <;> rfl
/-- A value is put into a temporary, memory having moved. -/
theorem Rel.put (r : Rel n h0 w0 β e h a w) {h' : Heap} {w' : World} (m : Moves h w h' w') (d : Option Nat) (hd : ∀ d', d = some d' → d' < n) {s : Slot} {v : Value} (hs : slotOk β e s v) :
    Rel n h0 w0 β (e.put d s none) h' (a.put d v) w' where
  size := by rw [put_size, r.size]
  nod := by rw [put_defers, r.nod]
  slot t := by
    rw [put_tmps a d v t (by rw [r.size]; exact hd)]
    cases d with
    | none => exact r.slot t
    | some d' =>
      simp only [Env.put]
      by_cases hh : t = d'
      · simp only [hh, if_true]; cases s <;> exact hs
      · simp only [hh, if_false]; have := r.slot t; revert this; cases e.s t <;> exact id
  box t cs hb := by
    obtain ⟨⟨ty, h1⟩, h2, h3⟩ := r.box t cs hb
    have hlt := heap_lt h1
    refine ⟨⟨ty, by rw [m.keep _ hlt h2, h1]⟩, ?_, h3⟩
    cases hh : h' (β t) with
    | none => rfl
    | some o => rcases m.dom (β t) (by simp [hh]) with h' | h'
                · exact absurd h2 h'
                · omega
  inj := r.inj
  mv := r.mv.trans m
/-- A new local box. -/
theorem Rel.newBox (r : Rel n h0 w0 β e h a w) (d : Nat) (hd : d < n) (hb : e.b d = none) (cs : List Value) (ty : TypeId) {s : Slot} {v : Value}
    (hs : (s = .l d 0 ∧ v = .pointer (some ⟨w.heap.size, 0, none⟩)) ∨ (∃ k, s = .r d k ∧ v = .slice (some ⟨w.heap.size, 0, none⟩) k k)) :
    Rel n h0 w0 (fun t => if t = d then w.heap.size else β t) (e.put (some d) s (some (d, cs))) h (a.put (some d) v) { w with heap := w.heap.push (.cells cs.toArray ty (0, 0)) } where
  size := by rw [put_size, r.size]
  nod := by rw [put_defers, r.nod]
  slot t := by
    rw [put_tmps a (some d) v t (by rintro _ ⟨⟩; rw [r.size]; exact hd)]
    simp only [Env.put]
    by_cases hh : t = d
    · simp only [hh, if_true]
      rcases hs with ⟨rfl, rfl⟩ | ⟨k, rfl, rfl⟩ <;> simp [slotOk]
    · simp only [hh, if_false]
      have := r.slot t
      revert this
      cases hst : e.s t with
      | v x => exact id
      | x => exact id
      | l u off =>
        intro ⟨h1, h2⟩
        have hu : u ≠ d := fun hu => by rw [hu, hb] at h2; cases h2
        simp [slotOk, hu, h1, h2]
      | r u k =>
        intro ⟨h1, h2⟩
        have hu : u ≠ d := fun hu => by rw [hu, hb] at h2; cases h2
        simp [slotOk, hu, h1, h2]
  box t cs' hb' := by
    simp only [Env.put] at hb'
    by_cases hh : t = d
    · simp only [hh, if_true, Option.some.injEq] at hb' ⊢
      subst hb'
      exact ⟨⟨ty, by simp⟩, r.fresh, r.mv.size⟩
    · simp only [hh, if_false] at hb' ⊢
      obtain ⟨⟨ty', h1⟩, h2, h3⟩ := r.box t cs' hb'
      have hlt := heap_lt h1
      exact ⟨⟨ty', by rw [Array.getElem?_push_lt hlt]; rw [Array.getElem?_eq_getElem hlt] at h1; exact h1⟩, h2, h3⟩
  inj t u ht hu hβ := by
    simp only [Env.put] at ht hu
    by_cases h1 : t = d
    · by_cases h2 : u = d
      · rw [h1, h2]
      · simp only [h1, if_true, h2, if_false] at hβ hu
        obtain ⟨cs', hc⟩ := Option.isSome_iff_exists.1 hu
        obtain ⟨⟨ty', h3⟩, _, _⟩ := r.box u cs' hc
        have := heap_lt h3
        omega
    · by_cases h2 : u = d
      · simp only [h1, if_false, h2, if_true] at hβ ht
        obtain ⟨cs', hc⟩ := Option.isSome_iff_exists.1 ht
        obtain ⟨⟨ty', h3⟩, _, _⟩ := r.box t cs' hc
        have := heap_lt h3
        omega
      · simp only [h1, if_false, h2, if_false] at hβ ht hu
        exact r.inj t u ht hu hβ
  mv := {
    view := fun b o hb => by
      have h1 := r.mv.view b o hb
      have hlt := heap_lt h1
      show (w.heap.push _)[b]? = some o
      rw [Array.getElem?_push_lt hlt]; rw [Array.getElem?_eq_getElem hlt] at h1; exact h1
    keep := fun b hb hn => by
      have h1 := r.mv.keep b hb hn
      have hlt : b < w.heap.size := by have := r.mv.size; omega
      show (w.heap.push _)[b]? = _
      rw [Array.getElem?_push_lt hlt, ← h1, Array.getElem?_eq_getElem hlt]
    dom := r.mv.dom
    size := by have := r.mv.size; show w0.heap.size ≤ (w.heap.push _).size; simp; omega
    out := r.mv.out }
theorem Moves.push (hv : ∀ b o, h b = some o → w.heap[b]? = some o) (o : Obj) : Moves h w (h.set w.heap.size o) { w with heap := w.heap.push o } where
  view b o' hb := by
    show (w.heap.push o)[b]? = some o'
    simp only [Heap.set] at hb
    split at hb
    · rename_i hh; subst hh; simp only [Option.some.injEq] at hb; simp [hb]
    · have h1 := hv b o' hb
      have hlt := heap_lt h1
      rw [Array.getElem?_push_lt hlt]; rw [Array.getElem?_eq_getElem hlt] at h1; exact h1
  keep b hb _ := by
    show (w.heap.push o)[b]? = _
    rw [Array.getElem?_push_lt hb, Array.getElem?_eq_getElem hb]
  dom b hb := by
    simp only [Heap.set] at hb
    split at hb
    · exact .inr (by omega)
    · exact .inl hb
  size := by show w.heap.size ≤ (w.heap.push o).size; simp
  out := ⟨rfl, rfl, rfl⟩
/-- A block of the view is replaced. -/
theorem Moves.repl (hv : ∀ b o, h b = some o → w.heap[b]? = some o) {b : Nat} {o : Obj} (hb : h b = some o) (o' : Obj) {w' : World} (hw : w'.heap = w.heap.setIfInBounds b o') (ho : w'.os = w.os ∧ w'.tape = w.tape ∧ w'.output = w.output) : Moves h w (h.set b o') w' where
  view c x hc := by
    rw [hw, Array.getElem?_setIfInBounds]
    simp only [Heap.set] at hc
    have hlt := heap_lt (hv b o hb)
    split at hc
    · rename_i hh; subst hh; simp only [Option.some.injEq] at hc; simp [hlt, hc]
    · rename_i hh; rw [if_neg (fun h => hh h.symm)]; exact hv c x hc
  keep c hc hn := by
    rw [hw, Array.getElem?_setIfInBounds]
    rw [if_neg]
    intro hh; subst hh; rw [hb] at hn; cases hn
  dom c hc := by
    simp only [Heap.set] at hc
    split at hc
    · rename_i hh; subst hh; exact .inl (by simp [hb])
    · exact .inl hc
  size := by rw [hw]; simp
  out := ho

/-! ### One operation -/
def Sound (P : Program) (n : Nat) (h0 : Heap) (w0 : World) (o : Oper) (a : Act) (w : World) (e : Env) (K : Slot → Bx → Heap → Prop) (E : List PanicEntry → Heap → Prop) : Prop :=
  ∀ (next : Act → World → Prop) (Q : Exit → Act → World → Prop),
    (∀ s bx h' β' a' w', K s bx h' → Rel n h0 w0 β' (e.put o.dst s bx) h' a' w' → next a' w') →
    (∀ c h' a' w', E c h' → Moves h0 w0 h' w' → a'.defers = [] → Q (.panic c) a' w') → o.wp P a w next Q
variable {P : Program} {S : Sig} {o : Oper} {K : Slot → Bx → Heap → Prop} {E : List PanicEntry → Heap → Prop}
theorem sound_val (r : Rel n h0 w0 β e h a w) (hd : ∀ d', o.dst = some d' → d' < n) {v : Value} {w' : World} (hr : (execOp a.eval o).run P w = .ok (.value v) w')
    {h' : Heap} (m : Moves h w h' w') {s : Slot} (hs : slotOk β e s v) (hK : K s none h') : Sound P n h0 w0 o a w e K E := by
  intro next Q h1 h2
  unfold Oper.wp
  rw [hr]
  exact h1 s none h' β _ w' hK (r.put m o.dst hd hs)
theorem sound_skip (r : Rel n h0 w0 β e h a w) (hd : ∀ d', o.dst = some d' → d' < n) {w' : World} (hr : (execOp a.eval o).run P w = .ok .skip w')
    {h' : Heap} (m : Moves h w h' w') (hK : K (.v undef) none h') : Sound P n h0 w0 o a w e K E := by
  intro next Q h1 h2
  unfold Oper.wp
  rw [hr]
  exact h1 (.v undef) none h' β _ w' hK (r.put m o.dst hd rfl)
theorem sound_same (r : Rel n h0 w0 β e h a w) (hd : ∀ d', o.dst = some d' → d' < n) {v : Value} (hr : (execOp a.eval o).run P w = .ok (.value v) w)
    {s : Slot} (hs : slotOk β e s v) (hK : K s none h) : Sound P n h0 w0 o a w e K E :=
  sound_val r hd hr (Moves.refl r.mv.view) hs hK
theorem sound_pure (r : Rel n h0 w0 β e h a w) (hd : ∀ d', o.dst = some d' → d' < n) {v : Value} (hr : (execOp a.eval o).run P w = .ok (.value v) w)
    (hK : K (.v v) none h) : Sound P n h0 w0 o a w e K E :=
  sound_val r hd hr (Moves.refl r.mv.view) (s := .v v) rfl hK
theorem sound_box (r : Rel n h0 w0 β e h a w) (hd : ∀ d', o.dst = some d' → d' < n) {d : Nat} (hdst : o.dst = some d) (hb : e.b d = none) {cs : List Value} {ty : TypeId} {v : Value}
    (hr : (execOp a.eval o).run P w = .ok (.value v) { w with heap := w.heap.push (.cells cs.toArray ty (0, 0)) }) {s : Slot}
    (hs : (s = .l d 0 ∧ v = .pointer (some ⟨w.heap.size, 0, none⟩)) ∨ (∃ k, s = .r d k ∧ v = .slice (some ⟨w.heap.size, 0, none⟩) k k)) (hK : K s (some (d, cs)) h) : Sound P n h0 w0 o a w e K E := by
  intro next Q h1 h2
  unfold Oper.wp
  rw [hr]
  have := r.newBox d (hd d hdst) hb cs ty hs
  rw [← hdst] at this
  exact h1 s _ h _ _ _ hK this
theorem isLocal_eq {F : Fs} {d : Option Nat} {d' : Nat} (h : isLocal F d = some d') : d = some d' := by
  unfold isLocal at h
  split at h
  · split at h
    · simpa using h
    · cases h
  · cases h
theorem forceL_eq (l : List Value) (K : List Value → Prop) : forceL l K ↔ K l := by
  induction l generalizing K with
  | nil => exact Iff.rfl
  | cons a r ih => exact ih (fun r' => K (a :: r'))
theorem sound_newVar (r : Rel n h0 w0 β e h a w) (hd : ∀ d', o.dst = some d' → d' < n) {F : Fs} {t : TypeId} {cs : List Value}
    (hr : (execOp a.eval o).run P w = .ok (.value (.pointer (some ⟨w.heap.size, 0, none⟩))) { w with heap := w.heap.push (.cells cs.toArray t) })
    (hx : newVar F t o.dst cs e h K) : Sound P n h0 w0 o a w e K E := by
  unfold newVar at hx
  split at hx
  · rename_i d hl
    have hl := isLocal_eq hl
    split at hx
    · rename_i hb
      rw [forceL_eq] at hx
      exact sound_box r hd hl hb (ty := t) hr (.inl ⟨rfl, rfl⟩) hx
    · exact hx.elim
  · unfold New at hx
    exact sound_val r hd hr (Moves.push r.mv.view _) (s := .v (.pointer (some ⟨w.heap.size, 0, none⟩))) rfl (hx _ r.fresh)
theorem sound_newRow (r : Rel n h0 w0 β e h a w) (hd : ∀ d', o.dst = some d' → d' < n) {F : Fs} {t : TypeId} {cs : List Value} {k : Nat}
    (hr : (execOp a.eval o).run P w = .ok (.value (.slice (some ⟨w.heap.size, 0, none⟩) k k)) { w with heap := w.heap.push (.cells cs.toArray t) })
    (hx : newRow F t o.dst k cs e h K) : Sound P n h0 w0 o a w e K E := by
  unfold newRow at hx
  split at hx
  · rename_i d hl
    have hl := isLocal_eq hl
    split at hx
    · rename_i hb
      rw [forceL_eq] at hx
      exact sound_box r hd hl hb (ty := t) hr (.inr ⟨k, rfl, rfl⟩) hx
    · exact hx.elim
  · unfold New at hx
    exact sound_val r hd hr (Moves.push r.mv.view _) (s := .v (.slice (some ⟨w.heap.size, 0, none⟩) k k)) rfl (hx _ r.fresh)
/-! #### Rows of cells -/
theorem rd_cell (hv : ∀ b o, h b = some o → w.heap[b]? = some o) {b off : Nat} {v : Value} (hr : rd h b off = some v) : w.cell? ⟨b, off, none⟩ = some v := by
  unfold rd at hr
  split at hr
  · rename_i c t f hb
    simp [World.cell?, hv _ _ hb, hr]
  · cases hr
theorem add_off (b off i : Nat) : (⟨b, off, none⟩ : Addr).add i = ⟨b, off + i, none⟩ := by
  unfold Addr.add
  split
  · rename_i hh; simp [hh]
  · rfl
theorem run_loadCells (vs : List Value) : ∀ (b off i : Nat) (acc : Array Value), (∀ j v, vs[j]? = some v → w.cell? ⟨b, off + (i + j), none⟩ = some v) →
    (loadCellsFrom ⟨b, off, none⟩ i vs.length acc).run P w = .ok (acc ++ vs.toArray) w := by
  induction vs with
  | nil => intro b off i acc _; simp [loadCellsFrom]
  | cons v vs ih =>
    intro b off i acc hc
    have h1 := hc 0 v rfl
    simp only [List.length_cons, loadCellsFrom, Sem.run_bind, run_load, add_off]
    rw [show off + i = off + (i + 0) from rfl, h1]
    simp only [Result.andThen_ok]
    rw [ih b off (i + 1) (acc.push v) (fun j u hj => by have := hc (j + 1) u (by simpa using hj); rw [show i + 1 + j = i + (j + 1) by omega]; exact this)]
    simp
theorem rdn_spec {b : Nat} : ∀ (n off : Nat) (vs : List Value), rdn h b off n = some vs → vs.length = n ∧ ∀ j v, vs[j]? = some v → rd h b (off + j) = some v := by
  intro n
  induction n with
  | zero => intro off vs hr; simp [rdn] at hr; subst hr; simp
  | succ n ih =>
    intro off vs hr
    simp only [rdn] at hr
    split at hr
    · rename_i v r h1 h2
      simp only [Option.some.injEq] at hr
      subst hr
      obtain ⟨h3, h4⟩ := ih _ _ h2
      refine ⟨by simp [h3], fun j u hj => ?_⟩
      cases j with
      | zero => simp at hj; subst hj; exact h1
      | succ j => simp at hj; rw [show off + (j + 1) = off + 1 + j by omega]; exact h4 j u hj
    · cases hr
theorem take_spec : ∀ (n : Nat) (l vs : List Value), take n l = some vs → vs = l.take n ∧ n ≤ l.length
  | 0, l, vs, h => by simp [take] at h; simp [h]
  | n + 1, [], vs, h => by simp [take] at h
  | n + 1, a :: r, vs, h => by
    simp only [take] at h
    split at h
    · rename_i t ht
      simp only [Option.some.injEq] at h
      obtain ⟨h1, h2⟩ := take_spec n r t ht
      subst h
      simp [h1, h2]
    · cases h
theorem drop_eq : ∀ (n : Nat) (l : List Value), drop n l = l.drop n
  | 0, l => rfl
  | n + 1, [] => rfl
  | n + 1, _ :: r => by simp [drop, drop_eq n r]
theorem wrl_eq : ∀ (l : List Value) (i : Nat) (v : Value), wrl l i v = l.set i v
  | [], i, v => by simp [wrl]
  | a :: r, 0, v => rfl
  | a :: r, i + 1, v => by simp [wrl, wrl_eq r i v]
theorem wrls_length : ∀ (vs l : List Value) (off : Nat), (wrls l off vs).length = l.length
  | [], l, off => rfl
  | v :: r, l, off => by simp [wrls, wrls_length r, wrl_eq]
theorem box_cell (r : Rel n h0 w0 β e h a w) {t : Nat} {cs : List Value} (hb : e.b t = some cs) {off : Nat} {v : Value} (hv : cs[off]? = some v) : w.cell? ⟨β t, off, none⟩ = some v := by
  obtain ⟨⟨ty, h1⟩, _, _⟩ := r.box t cs hb
  simp [World.cell?, h1, hv]
theorem rdBox_spec {t off k : Nat} {vs : List Value} (hr : rdBox e t off k = some vs) : ∃ cs, e.b t = some cs ∧ vs.length = k ∧ ∀ j v, vs[j]? = some v → cs[off + j]? = some v := by
  unfold rdBox at hr
  split at hr
  · rename_i cs hb
    obtain ⟨h1, h2⟩ := take_spec _ _ _ hr
    rw [drop_eq] at h1 h2
    refine ⟨cs, hb, by rw [h1]; simp at h2 ⊢; omega, fun j v hj => ?_⟩
    rw [h1] at hj
    have hjk : j < k := by
      have := (List.getElem?_eq_some_iff.1 hj).1
      simp at this; omega
    rw [List.getElem?_take_of_lt hjk, List.getElem?_drop] at hj
    exact hj
  · cases hr
theorem load_spec (hS : SigOk P S) (r : Rel n h0 w0 β e h a w) {t : TypeId} {ti : TI} {x : Operand}
    (hti : S.ty.find t = some ti) (hx : load ti (e.get x) e h K) : ∃ ad v, a.eval x = .pointer (some ad) ∧ (loadVar t ad).run P w = .ok v w ∧ K (.v v) none h := by
  have hx0 := r.eval_ok x
  have key : ∀ (b off : Nat) (vs : List Value), a.eval x = .pointer (some ⟨b, off, none⟩) → vs.length = ti.size → (∀ j v, vs[j]? = some v → w.cell? ⟨b, off + j, none⟩ = some v) →
      (ti.agg = true → K (.v (.agg ⟨vs⟩)) none h) → (ti.agg = false → ∀ v, vs = [v] → K (.v v) none h) → (ti.agg = false → ∃ v, vs = [v]) → ∃ ad v, a.eval x = .pointer (some ad) ∧ (loadVar t ad).run P w = .ok v w ∧ K (.v v) none h := by
    intro b off vs he hlen hc h1 h2 h3
    have hl := run_loadCells (P := P) (w := w) vs b off 0 #[] (fun j v hj => by rw [Nat.zero_add]; exact hc j v hj)
    rw [hlen] at hl
    cases hag : ti.agg with
    | true =>
      refine ⟨_, .agg ⟨vs⟩, he, ?_, h1 hag⟩
      simp only [loadVar, Sem.run_bind, run_isAgg hS hti, Result.andThen_ok, hag, if_true, run_sizeOf hS hti, loadCells, hl]
      simp
    | false =>
      obtain ⟨v, rfl⟩ := h3 hag
      refine ⟨_, v, he, ?_, h2 hag v rfl⟩
      have := hc 0 v rfl
      simp only [Nat.add_zero] at this
      simp [loadVar, run_isAgg hS hti, hag, this]
  unfold load at hx
  split at hx
  · rename_i u off hu
    rw [hu] at hx0
    split at hx
    · rename_i vs hvs
      obtain ⟨cs, hb, hlen, hc⟩ := rdBox_spec hvs
      refine key (β u) off vs hx0.1 hlen (fun j v hj => box_cell r hb (hc j v hj)) (fun hag => ?_) (fun hag v hv => ?_) (fun hag => ?_)
      · simp only [hag] at hx; rwa [forceL_eq] at hx
      · simp only [hag, hv] at hx; exact hx
      · simp only [hag] at hx
        split at hx
        · exact ⟨_, rfl⟩
        · exact hx.elim
    · exact hx.elim
  · rename_i b off hu
    rw [hu] at hx0
    cases hag : ti.agg with
    | true =>
      simp only [hag] at hx
      unfold LdN at hx
      obtain ⟨vs, hvs, hK⟩ := hx
      obtain ⟨hlen, hc⟩ := rdn_spec _ _ _ hvs
      exact key b off vs hx0 hlen (fun j v hj => rd_cell r.mv.view (hc j v hj)) (fun _ => hK) (fun h => by rw [hag] at h; cases h) (fun h => by rw [hag] at h; cases h)
    | false =>
      simp only [hag] at hx
      split at hx
      · rename_i hsz
        unfold Ld at hx
        obtain ⟨v, hv, hK⟩ := hx
        refine key b off [v] hx0 (by simp [hsz]) (fun j u hj => ?_) (fun h => by rw [hag] at h; cases h) (fun _ u hu => by simp at hu; subst hu; exact hK) (fun _ => ⟨v, rfl⟩)
        cases j with
        | zero => simp at hj; subst hj; exact rd_cell r.mv.view hv
        | succ j => simp at hj
      · exact hx.elim
  · exact hx.elim

theorem sound_load (hS : SigOk P S) (r : Rel n h0 w0 β e h a w) (hd : ∀ d', o.dst = some d' → d' < n) {t : TypeId} {ti : TI} {x : Operand} (ho : o.op = .load t x)
    (hti : S.ty.find t = some ti) (hx : load ti (e.get x) e h K) : Sound P n h0 w0 o a w e K E := by
  obtain ⟨ad, v, h1, h2, h3⟩ := load_spec hS r hti hx
  exact sound_pure r hd (by simp [execOp, ho, h1, Instr.loadAt, Instr.sureAddr, h2]) h3
/-! #### Stores -/
theorem isCell_one {v : Value} (hv : isCell v = true) : v.oneCell' = true := by cases v <;> simp_all [isCell, Value.oneCell']
theorem set_self {w : World} {b : Nat} {o : Obj} (hb : w.heap[b]? = some o) : w.heap.setIfInBounds b o = w.heap := by
  apply Array.ext_getElem?
  intro i
  rw [Array.getElem?_setIfInBounds]
  split
  · rename_i hh; subst hh; simp [heap_lt hb, (Array.getElem?_eq_some_iff.1 hb).2]
  · rfl
theorem setCell_heap {w : World} {b off : Nat} {cs : Array Value} {ty : TypeId} (hb : w.heap[b]? = some (.cells cs ty (0, 0))) (v : Value) :
    (w.setCell ⟨b, off, none⟩ v).heap = w.heap.setIfInBounds b (.cells (cs.setIfInBounds off v) ty (0, 0)) := by
  apply Array.ext_getElem?
  intro i
  simp only [World.setCell, Array.getElem?_modify, Array.getElem?_setIfInBounds]
  by_cases hi : b = i
  · subst hi; have hg := (Array.getElem?_eq_some_iff.1 hb).2; simp [heap_lt hb, hg]
  · simp [hi]
theorem run_storeCells (b : Nat) (ty : TypeId) : ∀ (vs : List Value) (off i : Nat) (w : World) (cs : Array Value), w.heap[b]? = some (.cells cs ty (0, 0)) → off + i + vs.length ≤ cs.size → cellsOk vs = true →
    ∃ w', (storeCells ⟨b, off, none⟩ vs i).run P w = .ok () w' ∧ w'.heap = w.heap.setIfInBounds b (.cells (wrls cs.toList (off + i) vs).toArray ty (0, 0)) ∧ w'.os = w.os ∧ w'.tape = w.tape ∧ w'.output = w.output := by
  intro vs
  induction vs with
  | nil =>
    intro off i w cs hb hl _
    refine ⟨w, by simp [storeCells], ?_, rfl, rfl, rfl⟩
    simp only [wrls]
    rw [show cs.toList.toArray = cs from rfl, set_self hb]
  | cons v vs ih =>
    intro off i w cs hb hl hok
    simp only [cellsOk] at hok
    split at hok
    · rename_i hv
      have hcell : w.cell? ⟨b, off + i, none⟩ = some (cs[off + i]'(by simp at hl; omega)) := by simp [World.cell?, hb]
      have hfz : w.frozen? ⟨b, off + i, none⟩ = false := by simp [World.frozen?, hb]
      have hset := setCell_heap (off := off + i) hb v
      have hb' : (w.setCell ⟨b, off + i, none⟩ v).heap[b]? = some (.cells (cs.setIfInBounds (off + i) v) ty (0, 0)) := by
        rw [hset]; simp [heap_lt hb]
      obtain ⟨w', h1, h2, h2o⟩ := ih off (i + 1) _ (cs.setIfInBounds (off + i) v) hb' (by simp at hl ⊢; omega) hok
      refine ⟨w', ?_, ?_, h2o⟩
      · simp only [storeCells, Sem.run_bind, add_off, run_store P w _ v .plain (isCell_one hv), hcell, hfz]
        simpa using h1
      · rw [h2, hset]
        simp only [wrls, wrl_eq, Array.toList_setIfInBounds]
        apply Array.ext_getElem?
        intro k
        simp only [Array.getElem?_setIfInBounds]
        by_cases hk : b = k
        · subst hk; simp [heap_lt hb]; rfl
        · simp [hk]
    · cases hok
/-- A local box is written. -/
theorem Rel.wrBox (r : Rel n h0 w0 β e h a w) (d : Option Nat) (hd : ∀ d', d = some d' → d' < n) {t : Nat} {cs cs' : List Value} {ty : TypeId} (hb : e.b t = some cs)
    (hty : w.heap[β t]? = some (.cells cs.toArray ty (0, 0))) {w' : World} (hw : w'.heap = w.heap.setIfInBounds (β t) (.cells cs'.toArray ty (0, 0))) (ho : w'.os = w.os ∧ w'.tape = w.tape ∧ w'.output = w.output) :
    Rel n h0 w0 β (e.put d (.v undef) (some (t, cs'))) h (a.put d undef) w' where
  size := by rw [put_size, r.size]
  nod := by rw [put_defers, r.nod]
  slot u := by
    rw [put_tmps a d undef u (by rw [r.size]; exact hd)]
    have aux : ∀ s v, slotOk β e s v → slotOk β (e.put d (.v undef) (some (t, cs'))) s v := by
      intro s v
      cases s with
      | v x => exact id
      | x => exact id
      | l k off => intro ⟨h1, h2⟩; refine ⟨h1, ?_⟩; simp only [Env.put]; split <;> simp_all
      | r k m => intro ⟨h1, h2⟩; refine ⟨h1, ?_⟩; simp only [Env.put]; split <;> simp_all
    cases d with
    | none => exact aux _ _ (r.slot u)
    | some d' =>
      by_cases hh : u = d'
      · simp only [hh, if_true, Env.put]; rfl
      · have := aux _ _ (r.slot u)
        simp only [hh, if_false, Env.put] at this ⊢
        exact this
  box u ds hu := by
    simp only [Env.put] at hu
    have hlt := heap_lt hty
    obtain ⟨_, h2, h3⟩ := r.box t cs hb
    by_cases hh : u = t
    · simp only [hh, if_true, Option.some.injEq] at hu
      subst hu; subst hh
      exact ⟨⟨ty, by rw [hw]; simp [hlt]⟩, h2, h3⟩
    · simp only [hh, if_false] at hu
      obtain ⟨⟨ty', h4⟩, h5, h6⟩ := r.box u ds hu
      refine ⟨⟨ty', ?_⟩, h5, h6⟩
      rw [hw, Array.getElem?_setIfInBounds, if_neg]
      · exact h4
      · intro hβ; exact hh (r.inj u t (by simp [hu]) (by simp [hb]) hβ.symm)
  inj u k hu hk hβ := by
    refine r.inj u k ?_ ?_ hβ
    · simp only [Env.put] at hu; split at hu <;> simp_all
    · simp only [Env.put] at hk; split at hk <;> simp_all
  mv := {
    view := fun b o hbo => by
      rw [hw, Array.getElem?_setIfInBounds, if_neg]
      · exact r.mv.view b o hbo
      · intro hβ; subst hβ; rw [(r.box t cs hb).2.1] at hbo; cases hbo
    keep := fun b hb' hn => by
      rw [hw, Array.getElem?_setIfInBounds, if_neg]
      · exact r.mv.keep b hb' hn
      · intro hβ; have := (r.box t cs hb).2.2; omega
    dom := r.mv.dom
    size := by rw [hw]; simp; exact r.mv.size
    out := ⟨ho.1.trans r.mv.out.1, ho.2.1.trans r.mv.out.2.1, ho.2.2.trans r.mv.out.2.2⟩ }
theorem cellsAt_spec {ti : TI} {v : Value} {Kc : List Value → Prop} (hx : cellsAt ti v Kc) : ∃ vs, Kc vs ∧ ((ti.agg = true ∧ v = .agg ⟨vs⟩ ∧ vs.length = ti.size) ∨ (ti.agg = false ∧ vs = [v] ∧ isCell v = true)) := by
  unfold cellsAt at hx
  split at hx
  · rename_i hag
    split at hx
    · rename_i cs
      rw [forceL_eq] at hx
      split at hx
      · rename_i hl
        exact ⟨cs.toList, hx, .inl ⟨hag, rfl, Nat.eq_of_beq_eq_true hl⟩⟩
      · exact hx.elim
    · exact hx.elim
  · rename_i hag
    split at hx
    · rename_i hv
      exact ⟨[v], hx, .inr ⟨hag, rfl, hv⟩⟩
    · exact hx.elim
theorem isCell_cells {v : Value} (hv : isCell v = true) : v.cells = #[v] := by cases v <;> simp_all [isCell, Value.cells]
theorem cells_of {ti : TI} {v : Value} {vs : List Value} (hsz : ti.agg = false → ti.size = 1)
    (hv : (ti.agg = true ∧ v = .agg ⟨vs⟩ ∧ vs.length = ti.size) ∨ (ti.agg = false ∧ vs = [v] ∧ isCell v = true)) : v.cells = ⟨vs⟩ ∧ vs.length = ti.size := by
  rcases hv with ⟨h1, h2, h3⟩ | ⟨h1, h2, h3⟩
  · exact ⟨by rw [h2]; rfl, h3⟩
  · subst h2
    exact ⟨isCell_cells h3, by simp [hsz h1]⟩
theorem sound_store (hS : SigOk P S) (r : Rel n h0 w0 β e h a w) (hd : ∀ d', o.dst = some d' → d' < n) {t : TypeId} {ti : TI} {x y : Operand} {v : Value} (ho : o.op = .store t x y)
    (hti : S.ty.find t = some ti) (hy : e.get y = .v v) (hx : store ti (e.get x) v e h K) : Sound P n h0 w0 o a w e K E := by
  have hx0 := r.eval_ok x
  have hsz := hS.one t ti hti
  unfold store at hx
  obtain ⟨vs, hx, hvs⟩ := cellsAt_spec hx
  split at hx
  · exact hx.elim
  rename_i hok
  obtain ⟨hcells, hlen⟩ := cells_of hsz hvs
  have hrun : ∀ b off w', a.eval x = .pointer (some ⟨b, off, none⟩) → (storeCells ⟨b, off, none⟩ vs).run P w = .ok () w' → (execOp a.eval o).run P w = .ok .skip w' := by
    intro b off w' he hs
    simp [execOp, ho, he, r.eval hy, Instr.storeAt, Instr.sureAddr, storeVar, run_sizeOf hS hti, hcells, hlen, hs]
  split at hx
  · rename_i u off hu
    rw [hu] at hx0
    split at hx
    · rename_i cs hb
      split at hx
      · rename_i hle
        have hle := Nat.le_of_ble_eq_true hle
        obtain ⟨⟨ty, h1⟩, h2, h3⟩ := r.box u cs hb
        obtain ⟨w', hw1, hw2, hwo⟩ := run_storeCells (P := P) (β u) ty vs off 0 w cs.toArray h1 (by simpa using hle) hok
        intro next Q hk hE
        unfold Oper.wp
        rw [hrun _ _ _ hx0.1 hw1]
        exact hk _ _ h β _ w' hx (r.wrBox o.dst hd hb h1 (by simpa using hw2) hwo)
      · exact hx.elim
    · exact hx.elim
  · rename_i b off hu
    rw [hu] at hx0
    unfold St at hx
    obtain ⟨cs, ty, hb, hle, hK⟩ := hx
    obtain ⟨w', hw1, hw2, hwo⟩ := run_storeCells (P := P) b ty vs off 0 w cs (r.mv.view _ _ hb) (by simpa using hle) hok
    refine sound_skip r hd (hrun _ _ _ hx0 hw1) (Moves.repl r.mv.view hb _ (by simpa using hw2) hwo) hK
  · exact hx.elim

/-! #### New variables and rows -/
theorem sound_boxOp (hS : SigOk P S) (r : Rel n h0 w0 β e h a w) (hd : ∀ d', o.dst = some d' → d' < n) {F : Fs} {t : TypeId} {ti : TI} {x : Operand} {v : Value} (ho : o.op = .box t x)
    (hti : S.ty.find t = some ti) (hv : e.get x = .v v) (hx : cellsAt ti v fun cs => newVar F t o.dst cs e h K) : Sound P n h0 w0 o a w e K E := by
  obtain ⟨vs, hx, hvs⟩ := cellsAt_spec hx
  obtain ⟨hcells, hlen⟩ := cells_of (hS.one t ti hti) hvs
  refine sound_newVar r hd ?_ hx
  simp [execOp, ho, r.eval hv, Instr.box, Go.newVar, Go.newRow, hcells]
theorem sound_alloc (hS : SigOk P S) (r : Rel n h0 w0 β e h a w) (hd : ∀ d', o.dst = some d' → d' < n) {F : Fs} {t : TypeId} {ti : TI} (ho : o.op = .alloc t)
    (hti : S.ty.find t = some ti) (hx : newVar F t o.dst ti.zero e h K) : Sound P n h0 w0 o a w e K E := by
  refine sound_newVar r hd ?_ hx
  obtain ⟨z, hz, hc⟩ := run_zero hS hti w
  have : z.cells = ti.zero.toArray := by rw [← hc]
  simp [execOp, ho, Instr.alloc, Go.newVar, Go.newRow, hz, this]
theorem foldl_wrls : ∀ (vs : List Value) (off k : Nat) (cs : Array Value),
    ((vs.zipIdx k).foldl (fun cs (c, j) => cs.setIfInBounds (off + j) c) cs).toList = wrls cs.toList (off + k) vs
  | [], off, k, cs => rfl
  | v :: vs, off, k, cs => by
    simp only [List.zipIdx_cons, List.foldl_cons, wrls, wrl_eq]
    rw [foldl_wrls vs off (k + 1) (cs.setIfInBounds (off + k) v)]
    simp [Nat.add_assoc]
theorem fill_spec (pl : Nat → Option Nat) (place : Nat → Option (Nat × Nat)) : ∀ (ps : List (Nat × Value)) (qs : List (Nat × List Value)) (cs : Array Value) (out : List Value),
    fillAt pl cs.toList qs = some out → ps.length = qs.length →
    (∀ i (hi : i < ps.length) (hj : i < qs.length), qs[i].1 = ps[i].1 ∧ (ps[i].2).cells = ⟨qs[i].2⟩ ∧ ∀ off, pl ps[i].1 = some off → place ps[i].1 = some (off, qs[i].2.length)) →
    Instr.fill place cs ps = some out.toArray
  | [], [], cs, out, h, _, _ => by simp [fillAt] at h; simp [Instr.fill, ← h]
  | [], _ :: _, _, _, _, h, _ => by simp at h
  | _ :: _, [], _, _, _, h, _ => by simp at h
  | (i, v) :: ps, (j, vs) :: qs, cs, out, h, hl, hall => by
    have h0 := hall 0 (by simp) (by simp)
    simp only [List.getElem_cons_zero] at h0
    obtain ⟨hij, hc, hp⟩ := h0
    subst hij
    simp only [fillAt] at h
    split at h
    · rename_i off ho
      split at h
      · rename_i hle
        have hle := Nat.le_of_ble_eq_true hle
        simp only [Instr.fill, hp off ho, hc]
        have hf := foldl_wrls vs off 0 cs
        have hsz : ¬ (vs.length ≠ vs.length || decide (off + vs.length > cs.size)) = true := by simp at hle ⊢; omega
        simp only [List.size_toArray]
        rw [if_neg (by simpa using hle)]
        refine fill_spec pl place ps qs _ out ?_ (by simpa using hl) (fun k hk hk' => ?_)
        · rw [← h]
          congr 1
          rw [← Nat.add_zero off, ← hf]
          simp [Array.foldl_toList]
        · have := hall (k + 1) (by simpa using hk) (by simpa using hk')
          simpa using this
      · cases h
    · cases h
theorem parts_spec {tyOf : Nat → Option TI} : ∀ (ps : List (Nat × Operand)) (Kp : List (Nat × List Value) → Prop), parts e tyOf ps Kp →
    ∃ qs, Kp qs ∧ qs.length = ps.length ∧ ∀ i (hi : i < ps.length) (hj : i < qs.length), qs[i].1 = ps[i].1 ∧ ∃ v ti, e.get ps[i].2 = .v v ∧ tyOf ps[i].1 = some ti ∧
      ((ti.agg = true ∧ v = .agg ⟨qs[i].2⟩ ∧ qs[i].2.length = ti.size) ∨ (ti.agg = false ∧ qs[i].2 = [v] ∧ isCell v = true))
  | [], Kp, h => ⟨[], h, rfl, fun i hi => by simp at hi⟩
  | (k, x) :: ps, Kp, h => by
    simp only [parts] at h
    split at h
    · rename_i v ti hv hti
      obtain ⟨vs, h, hvs⟩ := cellsAt_spec h
      obtain ⟨qs, h1, h2, h3⟩ := parts_spec ps _ h
      refine ⟨(k, vs) :: qs, h1, by simp [h2], fun i hi hj => ?_⟩
      cases i with
      | zero => exact ⟨rfl, v, ti, hv, hti, hvs⟩
      | succ i => exact h3 i (by simpa using hi) (by simpa using hj)
    · exact h.elim
theorem reps_eq (z : List Value) : ∀ n, reps n z = (List.replicate n z).flatten
  | 0 => rfl
  | n + 1 => by simp [reps, List.replicate_succ, reps_eq z n]
theorem flat_get (z : List Value) (hz : 0 < z.length) : ∀ (n i : Nat), i < n * z.length → ((List.replicate n z).flatten)[i]? = z[i % z.length]?
  | 0, i, h => by simp at h
  | n + 1, i, h => by
    rw [List.replicate_succ, List.flatten_cons]
    by_cases hi : i < z.length
    · rw [List.getElem?_append_left hi, Nat.mod_eq_of_lt hi]
    · rw [List.getElem?_append_right (by omega), flat_get z hz n (i - z.length) (by rw [Nat.succ_mul] at h; omega)]
      congr 1
      rw [← Nat.mod_eq_sub_mod (by omega)]
theorem flat_len (z : List Value) (n : Nat) : ((List.replicate n z).flatten).length = n * z.length := by simp
theorem zeros_eq (z : Array Value) (n : Nat) : (Array.range (n * z.size)).map (fun i => z[i % z.size]!) = ((List.replicate n z.toList).flatten).toArray := by
  by_cases hz : 0 < z.size
  · apply Array.ext_getElem?
    intro i
    by_cases hi : i < n * z.size
    · simp only [Array.getElem?_map, List.getElem?_toArray]
      rw [flat_get z.toList (by simpa using hz) n i (by simpa using hi)]
      have hm : i % z.size < z.size := Nat.mod_lt _ hz
      simp [hi, hm]
    · rw [Array.getElem?_eq_none (by simp; omega), List.getElem?_toArray, List.getElem?_eq_none (by simp; omega)]
  · have h0 : z.size = 0 := by omega
    have h1 : z.toList = [] := by simpa using h0
    simp [h0, h1]
theorem mapM_places (hS : SigOk P S) : ∀ (fs : List Field), (∀ f ∈ fs, (S.ty.find f.type).isSome) →
    ∃ l : List (Nat × Nat), (∀ w : World, (fs.mapM (fun (f : Field) => (do pure (f.offset, ← Go.sizeOf f.type) : Sem (Nat × Nat)))).run P w = .ok l w) ∧ l.length = fs.length ∧
      ∀ i (hi : i < fs.length) ti, S.ty.find (fs[i]).type = some ti → l[i]? = some ((fs[i]).offset, ti.size)
  | [], _ => ⟨[], fun w => by simp, rfl, fun i hi => by simp at hi⟩
  | f :: fs, hall => by
    obtain ⟨l, h1, h2, h3⟩ := mapM_places hS fs (fun g hg => hall g (by simp [hg]))
    obtain ⟨ti, hti⟩ := Option.isSome_iff_exists.1 (hall f (by simp))
    refine ⟨(f.offset, ti.size) :: l, fun w => ?_, by simp [h2], fun i hi tj hj => ?_⟩
    · rw [List.mapM_cons]
      simp only [Sem.run_bind, run_sizeOf hS hti, Result.andThen_ok, Sem.run_pure, h1]
    · cases i with
      | zero => simp only [List.getElem_cons_zero] at hj ⊢; rw [hti] at hj; simp only [Option.some.injEq] at hj; subst hj; rfl
      | succ i => simp only [List.getElem_cons_succ, List.getElem?_cons_succ] at hj ⊢; exact h3 i (by simpa using hi) tj hj
theorem sound_build (hS : SigOk P S) (r : Rel n h0 w0 β e h a w) (hd : ∀ d', o.dst = some d' → d' < n) {t : TypeId} {ps : Array (Nat × Operand)} (ho : o.op = .build t ps)
    (hx : bld S t ps.toList e fun v => K (.v v) none h) : Sound P n h0 w0 o a w e K E := by
  unfold bld at hx
  split at hx
  · rename_i ti hti
    split at hx
    · exact hx.elim
    rename_i pl tyOf hpl
    obtain ⟨qs, hx, hlen, hqs⟩ := parts_spec _ _ hx
    split at hx
    · rename_i cs hcs
      rw [forceL_eq] at hx
      obtain ⟨z, hz, hzc⟩ := run_zero hS hti w
      obtain ⟨d, hdd, hag, htd⟩ := run_under hS hti w
      refine sound_same r hd (v := .agg ⟨cs⟩) ?_ (s := .v (.agg ⟨cs⟩)) rfl hx
      have hfill : ∀ place : Nat → Option (Nat × Nat), (∀ i ti', tyOf i = some ti' → ∀ off, pl i = some off → place i = some (off, ti'.size)) →
          Instr.fill place z.cells (ps.map fun (i, x) => (i, a.eval x)).toList = some cs.toArray := by
        intro place hp
        refine fill_spec pl place _ qs z.cells cs (by rw [hzc]; exact hcs) (by simp [hlen]) (fun i hi hj => ?_)
        have hi' : i < ps.toList.length := by simpa using hi
        obtain ⟨h1, v, ti', h2, h3, h4⟩ := hqs i hi' hj
        have hti' : ti'.agg = false → ti'.size = 1 := by
          unfold places at hpl
          split at hpl
          · simp only [Option.some.injEq, Prod.mk.injEq] at hpl
            rw [← hpl.2] at h3
            simp only at h3
            split at h3
            · exact hS.one _ _ h3
            · cases h3
          · simp only [Option.some.injEq, Prod.mk.injEq] at hpl
            rw [← hpl.2] at h3
            exact hS.one _ _ h3
          · cases hpl
        obtain ⟨h5, h6⟩ := cells_of hti' h4
        simp only [Array.toList_map, List.getElem_map]
        refine ⟨h1, ?_, fun off ho => ?_⟩
        · rw [r.eval h2]; exact h5
        · rw [h6]; exact hp _ _ h3 off ho
      unfold places at hpl
      have hrun : (execOp a.eval o).run P w = ((Instr.build t (ps.map fun (i, x) => (i, a.eval x))).run P w).andThen (fun v w' => .ok (.value v) w') := by
        simp [execOp, ho]
      rw [hrun]
      split at hpl
      · rename_i fs hfs
        simp only [Option.some.injEq, Prod.mk.injEq] at hpl
        cases d <;> simp only [tdOf, hfs] at htd <;> try cases htd
        rename_i fields
        obtain ⟨l, hl1, hl2, hl3⟩ := mapM_places hS fields.toList (fun f hf => by
          obtain ⟨tj, htj, _⟩ := hS.flds t ti _ hti hfs (f.offset, f.type) (List.mem_map.2 ⟨f, hf, rfl⟩)
          simp only at htj
          simp [htj])
        have := hfill (fun i => l.toArray[i]?) (fun i ti' h3 off h4 => by
          rw [← hpl.2] at h3; rw [← hpl.1] at h4
          simp only [List.getElem?_map] at h3 h4
          by_cases hi : i < fields.toList.length
          · rw [List.getElem?_eq_getElem hi] at h3 h4
            simp only [Option.map_some, Option.some.injEq] at h3 h4
            rw [List.getElem?_toArray, hl3 i hi ti' h3, h4]
          · rw [List.getElem?_eq_none (by omega)] at h3; cases h3)
        simp only [Instr.build, Sem.run_bind, hz, hdd, Result.andThen_ok]
        have hm : ∀ w, (fields.mapM (fun (f : Field) => (do pure (f.offset, ← Go.sizeOf f.type) : Sem (Nat × Nat)))).run P w = .ok l.toArray w := by
          intro w
          rw [Array.mapM_eq_mapM_toList, Sem.run_map, hl1 w]
          rfl
        rw [hm]
        simp only [Result.andThen_ok, this, Sem.run_pure]
      · rename_i k el hfs
        simp only [Option.some.injEq, Prod.mk.injEq] at hpl
        cases d <;> simp only [tdOf, hfs] at htd <;> try cases htd
        obtain ⟨te, hte⟩ := Option.isSome_iff_exists.1 (hS.elems t ti _ _ hti hfs)
        have := hfill (fun i => some (i * te.size, te.size)) (fun i ti' h3 off h4 => by
          rw [← hpl.2] at h3; rw [← hpl.1] at h4
          simp only [hte, Option.some.injEq] at h3 h4
          subst h3
          split at h4
          · simp only [Option.some.injEq] at h4; rw [h4]
          · cases h4)
        simp only [Instr.build, Sem.run_bind, hz, hdd, Result.andThen_ok, run_sizeOf hS hte, this, Sem.run_pure]
      · cases hpl
    · exact hx.elim
  · exact hx.elim

theorem sound_buildSlice (hS : SigOk P S) (r : Rel n h0 w0 β e h a w) (hd : ∀ d', o.dst = some d' → d' < n) {F : Fs} {t el : TypeId} {k : Nat} {ti te : TI} {ps : Array (Nat × Operand)} (ho : o.op = .buildSlice t k ps)
    (hti : S.ty.find t = some ti) (htd : ti.d = .sl el) (hte : S.ty.find el = some te) (hle : k * te.size ≤ 16777216)
    (hx : parts e (fun _ => some te) ps.toList fun vs => match fillAt (fun i => some (i * te.size)) (reps k te.zero) vs with
          | some cs => newRow F el o.dst k cs e h K
          | none => False) : Sound P n h0 w0 o a w e K E := by
  obtain ⟨qs, hx, hlen, hqs⟩ := parts_spec _ _ hx
  split at hx
  · rename_i cs hcs
    refine sound_newRow r hd ?_ hx
    obtain ⟨d, hdd, hag, htd'⟩ := run_under hS hti w
    rw [htd] at htd'
    cases d <;> simp only [tdOf] at htd' <;> try cases htd'
    obtain ⟨z, hz, hzc⟩ := run_zero hS hte w
    have hzs : z.cells.size = te.size := by rw [← hS.zero _ _ hte, ← hzc]; simp
    have hfill : Instr.fill (fun i => some (i * te.size, te.size)) ((List.replicate k te.zero).flatten).toArray (ps.map fun (i, x) => (i, a.eval x)).toList = some cs.toArray := by
      refine fill_spec (fun i => some (i * te.size)) _ _ qs _ cs (by rw [← reps_eq]; exact hcs) (by simp [hlen]) (fun i hi hj => ?_)
      have hi' : i < ps.toList.length := by simpa using hi
      obtain ⟨h1, v, ti', h2, h3, h4⟩ := hqs i hi' hj
      simp only [Option.some.injEq] at h3
      subst h3
      obtain ⟨h5, h6⟩ := cells_of (hS.one _ _ hte) h4
      simp only [Array.toList_map, List.getElem_map]
      refine ⟨h1, ?_, fun off ho => ?_⟩
      · rw [r.eval h2]; exact h5
      · simp only [Option.some.injEq] at ho; rw [h6, ho]
    have hrun : (execOp a.eval o).run P w = ((Instr.buildSlice t k (ps.map fun (i, x) => (i, a.eval x))).run P w).andThen (fun v w' => .ok (.value v) w') := by
      simp [execOp, ho]
    rw [hrun]
    simp only [Instr.buildSlice, Sem.run_bind, hdd, Result.andThen_ok, run_sizeOf hS hte]
    rw [if_neg (by simp; omega)]
    by_cases h0 : k * te.size = 0
    · rw [if_pos h0]
      have hnil : (List.replicate k te.zero).flatten = [] := by
        apply List.eq_nil_of_length_eq_zero; rw [flat_len, hS.zero _ _ hte]; exact h0
      rw [hnil] at hfill
      simp only [h0, Sem.run_bind, Sem.run_pure, Result.andThen_ok]
      simp only [show Array.range 0 = #[] from rfl, Array.map_empty]
      rw [hfill]
      simp [Go.newRow]
    · rw [if_neg h0]
      have hzz := zeros_eq z.cells k
      rw [hzs, hzc] at hzz
      simp only [Sem.run_bind, hz, Result.andThen_ok, Sem.run_pure, hzs, hzz, hfill]
      simp [Go.newRow]
  · exact hx.elim
theorem sound_makeSlice (hS : SigOk P S) (r : Rel n h0 w0 β e h a w) (hd : ∀ d', o.dst = some d' → d' < n) {t el : TypeId} {ti te : TI} {x y : Operand} {k c : Int} (ho : o.op = .makeSlice t x y)
    (hti : S.ty.find t = some ti) (htd : ti.d = .sl el) (hte : S.ty.find el = some te) (hxv : e.get x = .v (.int .i64 k)) (hyv : e.get y = .v (.int .i64 c))
    (hx : Ob (k = c ∧ 0 ≤ k ∧ k * te.bytes ≤ 2 ^ 44 ∧ k ≤ 2 ^ 44) (New h (List.replicate k.toNat te.zero).flatten el fun b h' => K (.v (.slice (some ⟨b, 0, none⟩) k.toNat k.toNat)) none h')) : Sound P n h0 w0 o a w e K E := by
  unfold Ob New at hx
  obtain ⟨⟨rfl, hk0, hkb, hk44⟩, hx⟩ := hx
  refine sound_val r hd (v := .slice (some ⟨w.heap.size, 0, none⟩) k.toNat k.toNat) (w' := { w with heap := w.heap.push (.cells ((List.replicate k.toNat te.zero).flatten).toArray el) }) ?_ (Moves.push r.mv.view _) (s := .v (.slice (some ⟨w.heap.size, 0, none⟩) k.toNat k.toNat)) rfl (hx _ r.fresh)
  obtain ⟨d, hdd, hag, htd'⟩ := run_under hS hti w
  rw [htd] at htd'
  cases d <;> simp only [tdOf] at htd' <;> try cases htd'
  obtain ⟨z, hz, hzc⟩ := run_zero hS hte w
  obtain ⟨i, hi, hib, his⟩ := run_bytes hS hte w
  have hzs : z.cells.size = te.size := by rw [← hS.zero _ _ hte, ← hzc]; simp
  have hwrap : IntKind.i64.wrap k = k := by simp [IntKind.wrap, IntKind.bits, IntKind.signed]; omega
  have hrun : (execOp a.eval o).run P w = ((Instr.makeSlice t (.int .i64 k) (.int .i64 k)).run P w).andThen (fun v w' => .ok (.value v) w') := by
    simp [execOp, ho, r.eval hxv, r.eval hyv]
  rw [hrun]
  have hlarge : ¬ ((i.bytes : Int) * k > 2 ^ 48) := by rw [hib, Int.mul_comm]; omega
  simp only [Instr.makeSlice, Sem.run_bind, hdd, Result.andThen_ok, asInt, asIntOf, Sem.run_pure, hi, hwrap]
  rw [if_neg (by simp at hlarge ⊢; omega)]
  simp only [Sem.run_bind, run_askRoom, Result.andThen_ok, run_sizeOf hS hte]
  by_cases hz0 : k.toNat * te.size = 0
  · rw [if_pos hz0]
    have hnil : (List.replicate k.toNat te.zero).flatten = [] := by
      apply List.eq_nil_of_length_eq_zero; rw [flat_len, hS.zero _ _ hte]; exact hz0
    simp [hz0, hnil, Go.newRow, show Array.range 0 = #[] from rfl]
  · rw [if_neg hz0]
    have hzz := zeros_eq z.cells k.toNat
    rw [hzs, hzc] at hzz
    simp only [Sem.run_bind, hz, Result.andThen_ok, Sem.run_pure, hzs, hzz]
    simp [Go.newRow]

/-! #### Addresses, parts, indexes -/
theorem ob_iff {p q : Prop} : Ob p q ↔ p ∧ q := by unfold Ob; exact Iff.rfl
theorem add_zero' (a : Addr) : a.add 0 = a := by simp [Addr.add]
theorem map_add_zero (a : Option Addr) (k : Nat) : a.map (fun a => a.add (0 * k)) = a := by cases a <;> simp [add_zero']
theorem sliceOf_spec {size : Nat} {p : Option Addr} {m cap : Nat} {lo hi : Option Operand} {Kc : Value → Prop} (r : Rel n h0 w0 β e h a w)
    (hx : sliceOf size p m cap (optGet e lo) (optGet e hi) Kc) :
    ∃ l hh : Nat, (∀ w : World, (Instr.sliceBounds true m cap (lo.map a.eval) (hi.map a.eval) none).run P w = .ok (l, hh, cap) w) ∧
      Kc (.slice (if cap = l then p else p.map (·.add (l * size))) (hh - l) (cap - l)) := by
  have hgo : ∀ H : Nat, sliceLo size p cap (optGet e lo) H Kc → ∃ l : Nat, (∀ w : World, (match lo.map a.eval with
      | some v => Instr.sliceBound v H .sliceB
      | none => pure 0).run P w = .ok l w) ∧ Kc (.slice (if cap = l then p else p.map (·.add (l * size))) (H - l) (cap - l)) := by
    intro H hx
    unfold sliceLo at hx
    cases lo with
    | none =>
      simp only [optGet] at hx
      refine ⟨0, fun w => by simp, ?_⟩
      rw [map_add_zero]
      simpa using hx
    | some x =>
      simp only [optGet] at hx
      split at hx
      · rename_i hh; cases hh
      · rename_i k l hl
        simp only [Option.some.injEq] at hl
        obtain ⟨hb, hx⟩ := ob_iff.1 hx
        unfold Sub at hx
        refine ⟨l.toNat, fun w => ?_, ?_⟩
        · simp only [Option.map_some, r.eval hl, Instr.sliceBound, asIntOf, Sem.run_bind, Sem.run_pure, Result.andThen_ok, if_pos hb]
        · refine hx _ (fun hne => by rw [if_neg hne]) (fun he => by rw [if_pos he])
      · exact hx.elim
  unfold sliceOf at hx
  cases hi with
  | none =>
    simp only [optGet] at hx
    obtain ⟨l, h1, h2⟩ := hgo m hx
    refine ⟨l, m, fun w => ?_, h2⟩
    have := h1 w
    cases lo <;> simp_all [Instr.sliceBounds]
  | some y =>
    simp only [optGet] at hx
    split at hx
    · rename_i hh; cases hh
    · rename_i k x hy
      simp only [Option.some.injEq] at hy
      obtain ⟨hb, hx⟩ := ob_iff.1 hx
      obtain ⟨l, h1, h2⟩ := hgo x.toNat hx
      clear hx hgo
      refine ⟨l, x.toNat, fun w => ?_, h2⟩
      have := h1 w
      cases lo with
      | none =>
        simp only [Option.map_none, Sem.run_pure] at this
        simp only [Instr.sliceBounds, Option.map_some, Option.map_none, r.eval hy, Instr.sliceBound, asIntOf, Sem.run_bind, Sem.run_pure, Result.andThen_ok, if_true, if_pos hb]
        injection this with h3 _
        rw [h3]
      | some z =>
        simp only [Option.map_some] at this
        have hhi : (Instr.sliceBound (.int k x) cap .sliceAcap).run P w = .ok x.toNat w := by
          simp only [Instr.sliceBound, asIntOf, Sem.run_bind, Sem.run_pure, Result.andThen_ok, if_pos hb]
        simp only [Instr.sliceBounds, Option.map_some, r.eval hy, Option.isSome_none, Bool.false_eq_true, if_false, if_true, Sem.run_bind, Sem.run_pure, Result.andThen_ok, hhi, this]
    · exact hx.elim
theorem sound_slice (hS : SigOk P S) (r : Rel n h0 w0 β e h a w) (hd : ∀ d', o.dst = some d' → d' < n) {t el : TypeId} {ti te : TI} {x : Operand} {lo hi : Option Operand} {p : Option Addr} {m cap : Nat} (ho : o.op = .slice t x lo hi none)
    (hti : S.ty.find t = some ti) (htd : ti.d = .sl el) (hte : S.ty.find el = some te) (hxv : e.get x = .v (.slice p m cap))
    (hx : sliceOf te.size p m cap (optGet e lo) (optGet e hi) fun v => K (.v v) none h) : Sound P n h0 w0 o a w e K E := by
  obtain ⟨l, hh, h1, h2⟩ := sliceOf_spec (P := P) r hx
  refine sound_pure r hd ?_ h2
  obtain ⟨d, hdd, hag, htd'⟩ := run_under hS hti w
  rw [htd] at htd'
  cases d <;> simp only [tdOf] at htd' <;> try cases htd'
  simp only [execOp, ho, Instr.sliceAt, Instr.slice, Sem.run_bind, hdd, Result.andThen_ok, r.eval hxv, Option.map_none, h1, run_sizeOf hS hte, Sem.run_pure]
theorem sound_fieldAddr (hS : SigOk P S) (r : Rel n h0 w0 β e h a w) (hd : ∀ d', o.dst = some d' → d' < n) {t : TypeId} {ti : TI} {fs : List (Nat × TypeId)} {i k : Nat} {u : TypeId} {x : Operand} (ho : o.op = .fieldAddr t x i)
    (hti : S.ty.find t = some ti) (htd : ti.d = .str fs) (hf : fs[i]? = some (k, u))
    (hx : match e.get x with
        | .l u off => K (.l u (off + k)) none h
        | .v (.pointer (some ⟨b, off, none⟩)) => K (.v (.pointer (some ⟨b, off + k, none⟩))) none h
        | _ => False) : Sound P n h0 w0 o a w e K E := by
  obtain ⟨d, hdd, hag, htd'⟩ := run_under hS hti w
  rw [htd] at htd'
  cases d <;> simp only [tdOf] at htd' <;> try cases htd'
  rename_i fields
  have hx0 := r.eval_ok x
  rw [List.getElem?_map, Array.getElem?_toList] at hf
  cases hfi : fields[i]? with
  | none => rw [hfi] at hf; cases hf
  | some f =>
    rw [hfi] at hf
    simp only [Option.map_some, Option.some.injEq, Prod.mk.injEq] at hf
    obtain ⟨tj, htj, hsz⟩ := hS.flds t ti _ hti htd (f.offset, f.type) (List.mem_map.2 ⟨f, Array.mem_toList_iff.2 (Array.mem_of_getElem? hfi), rfl⟩)
    have hrun : ∀ b off, a.eval x = .pointer (some ⟨b, off, none⟩) → (execOp a.eval o).run P w = .ok (.value (.pointer (some ⟨b, off + k, none⟩))) w := by
      intro b off he
      simp [execOp, ho, he, Instr.fieldAt, hdd, hfi, Instr.sureAddr, fieldPlace, run_sizeOf hS htj, hsz, add_off, hf.1]
    split at hx
    · rename_i v off hv
      rw [hv] at hx0
      exact sound_same r hd (hrun _ _ hx0.1) (s := .l v (off + k)) ⟨rfl, hx0.2⟩ hx
    · rename_i b off hv
      rw [hv] at hx0
      exact sound_same r hd (hrun _ _ hx0) (s := .v _) rfl hx
    · exact hx.elim

theorem takeDrop_spec {k m : Nat} {l vs : List Value} (hv : take k (drop m l) = some vs) : vs.length = k ∧ ∀ j v, vs[j]? = some v → l[m + j]? = some v := by
  obtain ⟨h1, h2⟩ := take_spec _ _ _ hv
  rw [drop_eq] at h1 h2
  refine ⟨by rw [h1]; simp at h2 ⊢; omega, fun j v hj => ?_⟩
  rw [h1] at hj
  have hjk : j < k := by
    have := (List.getElem?_eq_some_iff.1 hj).1
    simp at this; omega
  rw [List.getElem?_take_of_lt hjk, List.getElem?_drop] at hj
  exact hj
theorem extract_eq {k m : Nat} {cs : Array Value} {vs : List Value} (hv : take k (drop m cs.toList) = some vs) : cs.extract m (m + k) = ⟨vs⟩ := by
  obtain ⟨h1, h2⟩ := take_spec _ _ _ hv
  rw [drop_eq] at h1 h2
  apply Array.ext'
  rw [h1]
  simp [List.extract_eq_take_drop]
theorem sound_field (hS : SigOk P S) (r : Rel n h0 w0 β e h a w) (hd : ∀ d', o.dst = some d' → d' < n) {t u : TypeId} {ti tu : TI} {fs : List (Nat × TypeId)} {i k : Nat} {x : Operand} {cs : Array Value} {vs : List Value} (ho : o.op = .field t x i)
    (hti : S.ty.find t = some ti) (htd : ti.d = .str fs) (hf : fs[i]? = some (k, u)) (hxv : e.get x = .v (.agg cs)) (htu : S.ty.find u = some tu)
    (hx : match tu.agg with
            | true => forceL vs fun vs => K (.v (.agg ⟨vs⟩)) none h
            | false => match vs with
              | [v] => K (.v v) none h
              | _ => False) (hvs : take tu.size (drop k cs.toList) = some vs) : Sound P n h0 w0 o a w e K E := by
  obtain ⟨d, hdd, hag, htd'⟩ := run_under hS hti w
  rw [htd] at htd'
  cases d <;> simp only [tdOf] at htd' <;> try cases htd'
  rename_i fields
  rw [List.getElem?_map, Array.getElem?_toList] at hf
  cases hfi : fields[i]? with
  | none => rw [hfi] at hf; cases hf
  | some f =>
    rw [hfi] at hf
    simp only [Option.map_some, Option.some.injEq, Prod.mk.injEq] at hf
    obtain ⟨hf1, hf2⟩ := hf
    rw [← hf2] at htu
    have hrun : (execOp a.eval o).run P w = ((part f.type cs k).run P w).andThen (fun v w' => .ok (.value v) w') := by
      simp [execOp, ho, r.eval hxv, Instr.field, hdd, hfi, asAgg, hf1]
    cases hagg : tu.agg with
    | true =>
      simp only [hagg] at hx
      rw [forceL_eq] at hx
      refine sound_pure r hd ?_ hx
      rw [hrun]
      simp only [part, Sem.run_bind, run_isAgg hS htu, hagg, Result.andThen_ok, if_true, run_sizeOf hS htu, Sem.run_pure, extract_eq hvs]
    | false =>
      simp only [hagg] at hx
      rcases vs with _ | ⟨v, _ | _⟩
      · exact hx.elim
      · refine sound_pure r hd ?_ hx
        obtain ⟨_, hc⟩ := takeDrop_spec hvs
        have := hc 0 v rfl
        rw [hrun]
        have hk : cs[k]? = some v := by simpa using this
        simp [part, run_isAgg hS htu, hagg, hk]
      · exact hx.elim
theorem sound_indexAddr (hS : SigOk P S) (r : Rel n h0 w0 β e h a w) (hd : ∀ d', o.dst = some d' → d' < n) {t : TypeId} {x y : Operand} {kk : IntKind} {i : Int} (ho : o.op = .indexAddr t x y)
    (hy : e.get y = .v (.int kk i))
    (hx : match S.ty.find t with
      | some ⟨_, _, _, _, .sl el⟩ => match S.ty.find el, e.get x with
        | some ti, .v (.slice (some ⟨b, off, none⟩) n _) => Ob (0 ≤ i ∧ i < n) (K (.v (.pointer (some ⟨b, off + i.toNat * ti.size, none⟩))) none h)
        | some ti, .r u n => Ob (0 ≤ i ∧ i < n) (K (.l u (i.toNat * ti.size)) none h)
        | _, _ => False
      | some ⟨_, _, _, _, .arr n el⟩ => match S.ty.find el, e.get x with
        | some ti, .v (.pointer (some ⟨b, off, none⟩)) => Ob (0 ≤ i ∧ i < n) (K (.v (.pointer (some ⟨b, off + i.toNat * ti.size, none⟩))) none h)
        | some ti, .l u off => Ob (0 ≤ i ∧ i < n) (K (.l u (off + i.toNat * ti.size)) none h)
        | _, _ => False
      | _ => False) : Sound P n h0 w0 o a w e K E := by
  have hx0 := r.eval_ok x
  have hye := r.eval hy
  split at hx
  · rename_i el hti
    obtain ⟨d, hdd, hag, htd'⟩ := run_under hS hti w
    cases d <;> simp only [tdOf] at htd' <;> try cases htd'
    have hrun : ∀ te, S.ty.find el = some te → ∀ b off m c, a.eval x = .slice (some ⟨b, off, none⟩) m c → (0 ≤ i ∧ i < m) → (execOp a.eval o).run P w = .ok (.value (.pointer (some ⟨b, off + i.toNat * te.size, none⟩))) w := by
      intro te hte b off m c he hb
      simp [execOp, ho, he, hye, Instr.indexAt, hdd, asIntOf, hb, run_sizeOf hS hte, add_off]
    split at hx
    · rename_i te b off m c hte hv
      rw [hv] at hx0
      obtain ⟨hb, hx⟩ := ob_iff.1 hx
      exact sound_pure r hd (hrun te hte _ _ _ _ hx0 hb) hx
    · rename_i te u m hte hv
      rw [hv] at hx0
      obtain ⟨hb, hx⟩ := ob_iff.1 hx
      refine sound_same r hd (hrun te hte _ _ _ _ hx0.1 hb) (s := .l u (i.toNat * te.size)) ⟨?_, hx0.2⟩ hx
      simp
    · exact hx.elim
  · rename_i k el hti
    obtain ⟨d, hdd, hag, htd'⟩ := run_under hS hti w
    cases d <;> simp only [tdOf] at htd' <;> try cases htd'
    have hrun : ∀ te, S.ty.find el = some te → ∀ b off, a.eval x = .pointer (some ⟨b, off, none⟩) → (0 ≤ i ∧ i < k) → (execOp a.eval o).run P w = .ok (.value (.pointer (some ⟨b, off + i.toNat * te.size, none⟩))) w := by
      intro te hte b off he hb
      simp [execOp, ho, he, hye, Instr.indexAt, hdd, asIntOf, hb, Instr.sureAddr, run_sizeOf hS hte, add_off]
    split at hx
    · rename_i te b off hte hv
      rw [hv] at hx0
      obtain ⟨hb, hx⟩ := ob_iff.1 hx
      exact sound_pure r hd (hrun te hte _ _ hx0 hb) hx
    · rename_i te u off hte hv
      rw [hv] at hx0
      obtain ⟨hb, hx⟩ := ob_iff.1 hx
      exact sound_same r hd (hrun te hte _ _ hx0.1 hb) (s := .l u (off + i.toNat * te.size)) ⟨rfl, hx0.2⟩ hx
    · exact hx.elim
  · exact hx.elim
theorem sound_extract (r : Rel n h0 w0 β e h a w) (hd : ∀ d', o.dst = some d' → d' < n) {x : Operand} {i : Nat} {vs : Array Value} {v : Value} (ho : o.op = .extract x i)
    (hxv : e.get x = .v (.tuple vs)) (hv : pickNat 0 (take 1 (drop i vs.toList)) = some v) (hx : K (.v v) none h) : Sound P n h0 w0 o a w e K E := by
  refine sound_pure r hd ?_ hx
  have : vs[i]? = some v := by
    unfold pickNat at hv
    split at hv
    · rename_i l hl
      obtain ⟨h1, h2⟩ := takeDrop_spec hl
      match l, h1, hv, h2 with
      | [u], _, hv, h2 =>
        simp only [Option.some.injEq] at hv
        subst hv
        have := h2 0 u rfl
        simpa using this
    · cases hv
  simp [execOp, ho, r.eval hxv, Instr.extract, this]

/-! #### append -/
theorem growBy_le (nl : Nat) : ∀ (k c : Nat), 256 ≤ c → Builtin.growBy nl k c ≤ 2 ^ k * c
  | 0, c, _ => by simp [Builtin.growBy]
  | k + 1, c, h => by
    unfold Builtin.growBy
    split
    · have : 1 ≤ 2 ^ (k + 1) := Nat.one_le_two_pow
      exact Nat.le_mul_of_pos_left c this
    · have h1 := growBy_le nl k (c + (c + 768) / 4) (by omega)
      have h2 : c + (c + 768) / 4 ≤ 2 * c := by omega
      calc _ ≤ 2 ^ k * (c + (c + 768) / 4) := h1
        _ ≤ 2 ^ k * (2 * c) := Nat.mul_le_mul_left _ h2
        _ = 2 ^ (k + 1) * c := by rw [Nat.pow_succ, Nat.mul_assoc]
theorem nextcap_le {need cap : Nat} (h : cap < need) : Builtin.nextslicecap need cap ≤ 16 * need := by
  unfold Builtin.nextslicecap
  split
  · omega
  · split
    · omega
    · have := growBy_le need 4 cap (by omega)
      omega
theorem zeroCells_eq (z : Array Value) (k : Nat) : Builtin.zeroCells z k = ((List.replicate k z.toList).flatten).toArray := zeros_eq z k
theorem appArg_spec (r : Rel n h0 w0 β e h a w) {size : Nat} {y : Operand} {Kc : Nat → List Value → Prop} (hx : appArg e size (e.get y) h Kc) :
    ∃ m vs, Kc m vs ∧ (∀ w1 : World, (Builtin.lenOf (a.eval y)).run P w1 = .ok m w1) ∧
      ∀ w1 : World, w1.heap = w.heap → (Builtin.firstCells size m (a.eval y)).run P w1 = .ok vs.toArray w1 := by
  have hy0 := r.eval_ok y
  unfold appArg at hx
  split at hx
  · rename_i t k hy
    rw [hy] at hy0
    split at hx
    · rename_i cs hb
      split at hx
      · rename_i hl
        have hl := Nat.eq_of_beq_eq_true hl
        refine ⟨k, cs, hx, fun w1 => by rw [hy0.1]; rfl, fun w1 hw => ?_⟩
        rw [hy0.1]
        simp only [Builtin.firstCells, loadCells]
        have := run_loadCells (P := P) (w := w1) cs (β t) 0 0 #[] (fun j v hj => by
          have := box_cell r hb hj
          simp only [World.cell?, hw] at this ⊢
          simpa using this)
        rw [hl] at this
        simpa using this
      · exact hx.elim
    · exact hx.elim
  · rename_i b off k c hy
    rw [hy] at hy0
    unfold LdN at hx
    obtain ⟨vs, hvs, hx⟩ := hx
    obtain ⟨hl, hc⟩ := rdn_spec _ _ _ hvs
    have hy0' : a.eval y = .slice (some ⟨b, off, none⟩) k c := hy0
    refine ⟨k, vs, hx, fun w1 => by rw [hy0']; rfl, fun w1 hw => ?_⟩
    rw [hy0']
    simp only [Builtin.firstCells, loadCells]
    have := run_loadCells (P := P) (w := w1) vs b off 0 #[] (fun j v hj => by
      have := rd_cell r.mv.view (hc j v hj)
      simp only [World.cell?, hw] at this ⊢
      simpa using this)
    rw [hl] at this
    simpa using this
  · rename_i k c hy
    rw [hy] at hy0
    have hy0' : a.eval y = .slice none k c := hy0
    exact ⟨k, [], hx, fun w1 => by rw [hy0']; rfl, fun w1 _ => by rw [hy0']; rfl⟩
  · exact hx.elim
theorem sound_append (hS : SigOk P S) (r : Rel n h0 w0 β e h a w) (hd : ∀ d', o.dst = some d' → d' < n) {t u el : TypeId} {ti tu te : TI} {el' : TypeId} {x y : Operand} {args : Array Operand} {ts : Array TypeId} {p : Option Addr} {k cap : Nat}
    (ho : o.op = .call { callee := .builtin .append, args := args, argTypes := ts }) (hargs : args.toList = [x, y]) (hts : ts.toList = [t, u])
    (hti : S.ty.find t = some ti) (htd : ti.d = .sl el) (htu : S.ty.find u = some tu) (htud : tu.d = .sl el') (hte : S.ty.find el = some te) (hxv : e.get x = .v (.slice p k cap))
    (hx : appArg e te.size (e.get y) h fun m vs => App te.bytes te.size te.zero el h p k cap m vs fun v h' => K (.v v) none h') : Sound P n h0 w0 o a w e K E := by
  obtain ⟨m, vs, hx, hm, hvs⟩ := appArg_spec (P := P) r hx
  have hargs' : args = #[x, y] := by rw [← hargs]
  have hts' : ts = #[t, u] := by rw [← hts]
  obtain ⟨d, hdd, hag, htd'⟩ := run_under hS hti w
  rw [htd] at htd'
  cases d <;> simp only [tdOf] at htd' <;> try cases htd'
  obtain ⟨du, hdu, _, htu'⟩ := run_under hS htu w
  rw [htud] at htu'
  cases du <;> simp only [tdOf] at htu' <;> try cases htu'
  have hrun : (execOp a.eval o).run P w = ((Builtin.append_ #[t, u] o.type #[.slice p k cap, a.eval y]).run P w).andThen (fun v w' => .ok (.value v) w') := by
    simp [execOp, ho, hargs', hts', resolve, invoke, builtin, r.eval hxv]
  unfold App at hx
  by_cases hle : k + m ≤ cap
  · obtain ⟨hok, hx⟩ := hx.1 hle
    have happ : ∀ w', (match p with
        | some a => (storeCells (a.add (k * te.size)) vs).run P w = .ok () w'
        | none => w' = w) → (execOp a.eval o).run P w = .ok (.value (.slice p (k + m) cap)) w' := by
      intro w' hw
      rw [hrun]
      simp only [Builtin.append_, List.getElem?_toArray, List.getElem?_cons_zero, List.getElem?_cons_succ, Sem.run_bind, hdd, Result.andThen_ok, run_sizeOf hS hte, hdu, Sem.run_pure, Bool.false_eq_true, if_false, hm, if_pos hle, Bool.not_false, if_true, hvs w rfl]
      cases p with
      | none => simp only at hw; subst hw; simp
      | some pa => simp only at hw; simp [hw]
    rcases p with _ | ⟨b, off, _ | sp⟩
    · obtain ⟨hvs0, hK⟩ := hx
      exact sound_pure r hd (happ w rfl) hK
    · obtain ⟨cs, ty, hb, hle', hK⟩ := hx
      obtain ⟨w', hw1, hw2, hwo⟩ := run_storeCells (P := P) b ty vs (off + k * te.size) 0 w cs (r.mv.view _ _ hb) (by simpa using hle') hok
      refine sound_val r hd (happ w' ?_) (Moves.repl r.mv.view hb _ (by simpa using hw2) hwo) (s := .v (.slice (some ⟨b, off, none⟩) (k + m) cap)) rfl hK
      simp only [add_off]; exact hw1
    · exact hx.elim
  · obtain ⟨hby, hneed, old, hold, hx⟩ := hx.2 (by omega)
    obtain ⟨i, hi, hib, his⟩ := run_bytes hS hte w
    obtain ⟨z, hz, hzc⟩ := run_zero hS hte w
    have hnc := nextcap_le (need := k + m) (cap := cap) (by omega)
    have hnb : Builtin.nextslicecap (k + m) cap * te.bytes ≤ 2 ^ 48 := by
      have h1 := Nat.mul_le_mul_right te.bytes hnc
      rw [Nat.mul_assoc] at h1
      omega
    have holdr : ∀ w1 : World, w1.heap = w.heap → (Builtin.firstCells te.size k (.slice p k cap)).run P w1 = .ok old.toArray w1 := by
      intro w1 hw
      rcases p with _ | ⟨b, off, _ | sp⟩
      · rw [hold.2]; rfl
      · obtain ⟨hl, hc⟩ := rdn_spec _ _ _ hold
        simp only [Builtin.firstCells, loadCells]
        have := run_loadCells (P := P) (w := w1) old b off 0 #[] (fun j v hj => by
          have := rd_cell r.mv.view (hc j v hj)
          simp only [World.cell?, hw] at this ⊢
          simpa using this)
        rw [hl] at this
        simpa using this
      · exact hold.elim
    obtain ⟨nc, hnc1, hnc2⟩ : ∃ nc, k + m ≤ nc ∧ (choose (.appendCap (k + m) cap el)).run P w = .ok nc { w with drawn := w.drawn + 1 } := by
      refine ⟨_, ?_, by simp [Question.forced]; rfl⟩
      simp only [Question.cut]; omega
    have hzc' : z.cells = te.zero.toArray := by rw [← hzc]
    have hmax : ¬ (((k + m : Nat) : Int) > IntKind.i64.max) := by
      have : (IntKind.i64.max : Int) = 9223372036854775807 := by decide
      rw [this]; omega
    refine sound_val r hd (v := .slice (some ⟨w.heap.size, 0, none⟩) (k + m) nc) (w' := { w with drawn := w.drawn + 1, heap := w.heap.push (.cells (old ++ vs ++ (List.replicate (nc - (k + m)) te.zero).flatten).toArray el) }) ?_ ?_ (s := .v (.slice (some ⟨w.heap.size, 0, none⟩) (k + m) nc)) rfl (hx _ nc r.fresh hnc1)
    · rw [hrun]
      simp only [Builtin.append_, List.getElem?_toArray, List.getElem?_cons_zero, List.getElem?_cons_succ, Sem.run_bind, hdd, Result.andThen_ok, run_sizeOf hS hte, hdu, Sem.run_pure, Bool.false_eq_true, if_false, hm, if_neg hle, Bool.not_false, if_true, hi, hib]
      rw [if_neg (by rintro ⟨h1, _⟩; exact hmax h1)]
      simp only [Sem.run_bind, Sem.run_pure, Result.andThen_ok, hi, hib]
      rw [if_neg (by omega)]
      simp only [Sem.run_bind, Sem.run_pure, Result.andThen_ok, hnc2, hi, hib, run_askRoom]
      obtain ⟨i2, hi2, _, _⟩ := run_bytes hS hte { w with drawn := w.drawn + 1 }
      simp only [hi2, Result.andThen_ok]
      rw [holdr { w with drawn := w.drawn + 1 } rfl]
      simp only [Result.andThen_ok]
      rw [hvs { w with drawn := w.drawn + 1 } rfl]
      obtain ⟨z', hz', hzc'⟩ := run_zero hS hte { w with drawn := w.drawn + 1 }
      have hzc'' : z'.cells = te.zero.toArray := by rw [← hzc']
      simp only [Result.andThen_ok, hz', zeroCells_eq, hzc'', Go.newRow, Sem.run_bind, run_newObj, Sem.run_pure]
      simp
    · have := Moves.push r.mv.view (.cells (old ++ vs ++ (List.replicate (nc - (k + m)) te.zero).flatten).toArray el)
      exact ⟨this.view, this.keep, this.dom, this.size, rfl, rfl, rfl⟩

/-! #### Calls -/
theorem vals_spec : ∀ (xs : List Operand) (Kc : List Value → Prop), vals e xs Kc → ∃ vs, Kc vs ∧ vs.length = xs.length ∧ ∀ i (hi : i < xs.length) (hj : i < vs.length), e.get xs[i] = .v vs[i]
  | [], Kc, h => ⟨[], h, rfl, fun i hi => by simp at hi⟩
  | x :: xs, Kc, h => by
    simp only [vals] at h
    split at h
    · rename_i v hv
      obtain ⟨vs, h1, h2, h3⟩ := vals_spec xs _ h
      refine ⟨v :: vs, h1, by simp [h2], fun i hi hj => ?_⟩
      cases i with
      | zero => exact hv
      | succ i => exact h3 i (by simpa using hi) (by simpa using hj)
    · exact h.elim
theorem vals_map (r : Rel n h0 w0 β e h a w) {xs : Array Operand} {vs : List Value} (h1 : vs.length = xs.toList.length) (h2 : ∀ i (hi : i < xs.toList.length) (hj : i < vs.length), e.get xs.toList[i] = .v vs[i]) : xs.map a.eval = vs.toArray := by
  apply Array.ext
  · simp at h1 ⊢; exact h1.symm
  · intro i hi hj
    simp at hi hj
    have := h2 i (by simpa using hi) hj
    simp only [Array.getElem_toList] at this
    simp [r.eval this]
theorem sound_callFn (hS : SigOk P S) (r : Rel n h0 w0 β e h a w) (hd : ∀ d', o.dst = some d' → d' < n) {x : Bool} {f : Operand} {fv : Value} {args : Array Operand} {ts : Array TypeId} (ho : o.op = .call { callee := .value f, args := args, argTypes := ts })
    (hf : e.get f = .v fv) (hx : vals e args.toList fun args => callFn P S x fv args h K E) : Sound P n h0 w0 o a w e K E := by
  obtain ⟨vs, hx, h1, h2⟩ := vals_spec _ _ hx
  have hargs := vals_map r h1 h2
  unfold callFn at hx
  split at hx
  · rename_i g first captured hx9
    split at hx
    · rename_i hlo hhi
      obtain ⟨fn, hfn, hbody, hname⟩ := hS.fn g (Nat.le_of_ble_eq_true hlo) (by have := hhi; simp [Nat.blt] at this; omega)
      rw [forceL_eq] at hx
      have hrun : (execOp a.eval o).run P w = .ok (.enter g (first ++ vs.toArray ++ captured)) w := by
        simp only [execOp, ho, resolve, r.eval hf, Deferred.ofValue, hargs, Sem.run_bind, Sem.run_pure, Result.andThen_ok, invoke, callFunc, run_program, hfn, hname, Bool.false_eq_true, if_false, hbody]
      have harr : (first.toList ++ vs ++ captured.toList).toArray = first ++ vs.toArray ++ captured := by
        apply Array.ext'; simp
      have hgo : ∀ R, CallsH P g (first.toList ++ vs ++ captured.toList) h R → (∀ v h', R (.ret v) h' → K (.v v) none h') → (∀ c h', R (.pan c) h' → E c h') → Sound P n h0 w0 o a w e K E := by
        intro R hR hRk hRe next Q hk hE
        unfold Oper.wp
        rw [hrun]
        simp only [Oper.upon]
        rw [← harr]
        refine (hR w r.mv.view).mono ?_
        intro en w' ⟨h', m, hm⟩
        cases en with
        | returned v => exact hk _ none h' β _ w' (hRk v h' hm) (r.put m o.dst hd rfl)
        | panicked c => exact hE c h' a w' (hRe c h' hm) (r.mv.trans m) r.nod
        | outgrown => exact hm.elim
      split at hx
      · unfold CallX at hx
        exact hgo _ hx (fun v h' hh => hh.2) (fun c h' hh => hh.elim)
      · unfold Call at hx
        exact hgo _ hx (fun v h' hh => hh) (fun c h' hh => hh)
    · exact hx.elim
  · exact hx.elim
theorem sound_len (hS : SigOk P S) (r : Rel n h0 w0 β e h a w) (hd : ∀ d', o.dst = some d' → d' < n) {x : Operand} {args : Array Operand} {ts : Array TypeId} {k c : Nat} {p : Option Addr} {ti : TI} {el : TypeId} (ho : o.op = .call { callee := .builtin .len, args := args, argTypes := ts })
    (hargs : args.toList = [x]) (hti : (ts.toList.head?).bind (fun t => S.ty.find t) = some ti) (htd : ti.d = .sl el) (hxv : a.eval x = .slice p k c) (hx : K (.v (.int .i64 k)) none h) : Sound P n h0 w0 o a w e K E := by
  refine sound_pure r hd ?_ hx
  have hargs' : args = #[x] := by rw [← hargs]
  cases hts : ts.toList with
  | nil => rw [hts] at hti; cases hti
  | cons t ts' =>
    rw [hts] at hti
    simp only [List.head?_cons, Option.bind_some] at hti
    obtain ⟨d, hdd, hag, htd'⟩ := run_under hS hti w
    rw [htd] at htd'
    cases d <;> simp only [tdOf] at htd' <;> try cases htd'
    have h0 : ts[0]? = some t := by rw [← Array.getElem?_toList, hts]; rfl
    simp [execOp, ho, hargs', resolve, invoke, builtin, hxv, Builtin.len_, h0, hdd, goInt]
/-! #### Numbers and truths -/
theorem sameKind_eq {j k : IntKind} (hh : sameKind j k = true) : j = k := by cases j <;> cases k <;> simp_all [sameKind]
theorem ar_iff {k : IntKind} {x : Int} {Kc : Int → Prop} : Ar k x Kc ↔ Kc (k.wrap x) := by unfold Ar; exact Iff.rfl
theorem run_eqGuard_int (op : BinOp) (t : TypeId) (x y : Operand) (j k : IntKind) (i m : Int) (w : World) : (eqGuard op t x y (.int j i) (.int k m)).run P w = .ok () w := by
  unfold eqGuard
  cases op <;> rfl
theorem sound_binInt (r : Rel n h0 w0 β e h a w) (hd : ∀ d', o.dst = some d' → d' < n) {op : BinOp} {t u : TypeId} {x y : Operand} {j k : IntKind} {i m : Int} (ho : o.op = .binOp op t x y u)
    (hxv : e.get x = .v (.int j i)) (hyv : e.get y = .v (.int k m)) (hjk : sameKind j k = true) {raw : Prop} (hraw : raw → Sound P n h0 w0 o a w e K E) (hx : binInt op j i m (fun v => K (.v v) none h) raw) : Sound P n h0 w0 o a w e K E := by
  have hjk := sameKind_eq hjk
  subst hjk
  have hrun : ∀ v, (Go.binOp op t (.int j i) (.int j m)).run P w = .ok v w → (execOp a.eval o).run P w = .ok (.value v) w := by
    intro v hv
    simp only [execOp, ho, r.eval hxv, r.eval hyv, Sem.run_bind, run_eqGuard_int, Result.andThen_ok, hv, Sem.run_pure]
  cases op <;> simp only [binInt] at hx <;> first
    | exact hraw hx
    | (rw [ar_iff] at hx; exact sound_pure r hd (hrun _ (by simp [Go.binOp, Op.intArith])) hx)
    | (obtain ⟨h1, hx⟩ := ob_iff.1 hx; rw [ar_iff] at hx; exact sound_pure r hd (hrun _ (by simp [Go.binOp, Op.intDiv, h1])) hx)
    | (obtain ⟨h1, hx⟩ := ob_iff.1 hx; exact sound_pure r hd (hrun _ (by simp [Go.binOp, Op.intDiv, h1])) hx)
    | (refine sound_pure r hd (hrun _ ?_) hx
       first
         | (simp [Go.binOp, Op.intCmp]; done)
         | (simp [Go.binOp, Op.intCmp]; rfl)
         | (simp [Go.binOp, Op.intCmp, bne, BEq.beq]; done)
         | (simp [Go.binOp, Op.intBits, bits2]; done))
theorem run_eqGuard_bool (op : BinOp) (t : TypeId) (x y : Operand) (b c : Bool) (w : World) : (eqGuard op t x y (.bool b) (.bool c)).run P w = .ok () w := by
  unfold eqGuard
  cases op <;> rfl
theorem run_equal_bool {t : TypeId} {b c : Bool} {w : World} (hd : (underlying t).run P w = .ok .bool w) : (Op.equal t (.bool b) (.bool c)).run P w = .ok (b == c) w := by
  unfold Op.equal Op.maxDepth
  rw [show (10000 : Nat) = 9999 + 1 from rfl, Op.equalIn]
  simp only [Sem.run_bind, hd, Result.andThen_ok]
  rfl
theorem sound_raw (r : Rel n h0 w0 β e h a w) (hd : ∀ d', o.dst = some d' → d' < n) (hx : Raw P o e h fun v h' => K (.v v) none h') : Sound P n h0 w0 o a w e K E := by
  unfold Raw at hx
  obtain ⟨hv, hx⟩ := hx
  obtain ⟨v, w', h', hrun, m, hK⟩ := hx a.eval (fun x hxm => by obtain ⟨v, hv⟩ := hv x hxm; rw [hv, r.eval hv]) w r.mv.view
  rcases hrun with hrun | ⟨hrun, rfl⟩
  · exact sound_val r hd hrun m (s := .v v) rfl hK
  · exact sound_skip r hd hrun m hK
theorem sound_raw' (r : Rel n h0 w0 β e h a w) (hd : ∀ d', o.dst = some d' → d' < n) {x : Bool} (hx : match x && !isW o.op with
    | true => False
    | false => Raw P o e h fun v h' => K (.v v) none h') : Sound P n h0 w0 o a w e K E := by
  split at hx
  · exact hx.elim
  · exact sound_raw r hd hx
theorem sound_move (r : Rel n h0 w0 β e h a w) (hd : ∀ d', o.dst = some d' → d' < n) {x : Operand} (ho : (execOp a.eval o).run P w = .ok (.value (a.eval x)) w) (hx : match e.get x with
        | .x => False
        | s => K s none h) : Sound P n h0 w0 o a w e K E := by
  have hx0 := r.eval_ok x
  split at hx
  · exact hx.elim
  · exact sound_same r hd ho hx0 hx
theorem exec_sound (hS : SigOk P S) {F : Fs} {x : Bool} (r : Rel n h0 w0 β e h a w) (hd : ∀ d', o.dst = some d' → d' < n) (hx : exec P S F x o e h K E) : Sound P n h0 w0 o a w e K E := by
  obtain ⟨dst, op, ty, pos, after, guard⟩ := o
  cases op with
  | move y => exact sound_move r hd (x := y) (by simp [execOp]) hx
  | assign y => exact sound_move r hd (x := y) (by simp [execOp]) hx
  | pick c y z =>
    simp only [exec] at hx
    split at hx
    · rename_i t ht
      have hc := r.eval ht
      cases t with
      | true => exact sound_move r hd (x := y) (by simp [execOp, hc, asBool]) hx
      | false => exact sound_move r hd (x := z) (by simp [execOp, hc, asBool]) hx
    · exact hx.elim
  | alloc t =>
    simp only [exec] at hx
    split at hx
    · rename_i ti hti; exact sound_alloc hS r hd rfl hti hx
    · exact hx.elim
  | box t y =>
    simp only [exec] at hx
    split at hx
    · rename_i v ti hv hti; exact sound_boxOp hS r hd rfl hti hv hx
    · exact hx.elim
  | build t ps => exact sound_build hS r hd rfl hx
  | buildSlice t k ps =>
    simp only [exec] at hx
    split at hx
    · rename_i el hti
      split at hx
      · rename_i te hte
        split at hx
        · rename_i hle; exact sound_buildSlice hS r hd rfl hti rfl hte (Nat.le_of_ble_eq_true hle) hx
        · exact hx.elim
      · exact hx.elim
    · exact hx.elim
  | load t y =>
    simp only [exec] at hx
    split at hx
    · rename_i ti hti
      split at hx
      · split at hx
        · rename_i u off hy; rw [← hy] at hx; exact sound_load hS r hd rfl hti hx
        · exact hx.elim
      · exact sound_load hS r hd rfl hti hx
    · exact hx.elim
  | store t y z =>
    simp only [exec] at hx
    split at hx
    · rename_i ti v hti hv; exact sound_store hS r hd rfl hti hv hx
    · exact hx.elim
  | nilCheck y =>
    simp only [exec] at hx
    have hy0 := r.eval_ok y
    split at hx
    · rename_i t off hy
      rw [hy] at hy0
      exact sound_same r hd (v := .pointer (some ⟨β t, off, none⟩)) (by simp [execOp, hy0.1]) (s := .l t off) ⟨rfl, hy0.2⟩ hx
    · rename_i p hy; exact sound_pure r hd (by simp [execOp, r.eval hy]) hx
    · rename_i t v hy; exact sound_pure r hd (by simp [execOp, r.eval hy]) hx
    · rename_i g f c hy; exact sound_pure r hd (by simp [execOp, r.eval hy]) hx
    · exact sound_raw' r hd hx
  | binOp op t y z u =>
    simp only [exec] at hx
    split at hx
    · rename_i j i k m hy hz
      split at hx
      · rename_i hjk; exact sound_binInt r hd rfl hy hz hjk (sound_raw' r hd) hx
      · exact sound_raw' r hd hx
    · rename_i b c hy hz
      split at hx
      · rename_i hti
        obtain ⟨d, hdd, _, htd⟩ := run_under hS hti w
        cases d <;> simp only [tdOf] at htd <;> try cases htd
        split at hx
        · refine sound_pure r hd ?_ hx
          simp only [execOp, r.eval hy, r.eval hz, Sem.run_bind, run_eqGuard_bool, Result.andThen_ok]
          rw [show Go.binOp .eql t (.bool b) (.bool c) = (do pure (.bool (← Op.equal t (.bool b) (.bool c)))) from rfl]
          simp only [Sem.run_bind, run_equal_bool hdd, Result.andThen_ok, Sem.run_pure]
        · refine sound_pure r hd ?_ hx
          simp only [execOp, r.eval hy, r.eval hz, Sem.run_bind, run_eqGuard_bool, Result.andThen_ok]
          rw [show Go.binOp .neq t (.bool b) (.bool c) = (do pure (.bool (!(← Op.equal t (.bool b) (.bool c))))) from rfl]
          simp only [Sem.run_bind, run_equal_bool hdd, Result.andThen_ok, Sem.run_pure, bne]
        · exact sound_raw' r hd hx
      · exact sound_raw' r hd hx
    · exact sound_raw' r hd hx
  | unOp op t y =>
    simp only [exec] at hx
    split at hx
    · rename_i b hy; exact sound_pure r hd (by simp [execOp, r.eval hy, Op.unary]) hx
    · rename_i k m hy; rw [ar_iff] at hx; exact sound_pure r hd (by simp [execOp, r.eval hy, Op.unary, Op.intArith]) hx
    · exact sound_raw' r hd hx
  | convert s t y =>
    simp only [exec] at hx
    split at hx
    · rename_i ti tj k m hti htj hy
      split at hx
      · rename_i k' hd1
        rw [ar_iff] at hx
        refine sound_pure r hd ?_ hx
        obtain ⟨d, hdd, _, htd⟩ := run_under hS htj w
        obtain ⟨d', hdd', _, _⟩ := run_under hS hti w
        rw [hd1] at htd
        cases d <;> simp only [tdOf] at htd <;> try cases htd
        simp only [execOp, Go.convert, Sem.run_bind, hdd', hdd, Result.andThen_ok, r.eval hy, Conv.intToInt, Sem.run_pure]
      · exact sound_raw' r hd hx
    · exact sound_raw' r hd hx
  | index t y z =>
    simp only [exec] at hx
    split at hx
    · rename_i s k i hy hz
      split at hx
      · rename_i hti
        obtain ⟨hb, hx⟩ := ob_iff.1 hx
        refine sound_pure r hd ?_ hx
        obtain ⟨d, hdd, _, htd⟩ := run_under hS hti w
        cases d <;> simp only [tdOf] at htd <;> try cases htd
        have hlt : i.toNat < s.size := by omega
        have hg : s[i.toNat]? = some (s[i.toNat]'hlt) := by simp [hlt]
        have hl : s.data.toList.getD i.toNat 0 = s[i.toNat]'hlt := by
          have : i.toNat < s.data.toList.length := by simpa using hlt
          have h2 : s.data[i.toNat]? = some (s.data[i.toNat]'hlt) := Array.getElem?_eq_getElem hlt
          simp [List.getD_eq_getElem?_getD, h2]; rfl
        simp only [execOp, Instr.index, r.eval hy, r.eval hz, asIntOf, Sem.run_bind, Sem.run_pure, Result.andThen_ok, hdd, if_pos hb.1, hg, hl]
      · exact sound_raw' r hd hx
    · exact sound_raw' r hd hx
  | makeInterface t y =>
    simp only [exec] at hx
    split at hx
    · rename_i ti v hti hy
      split at hx
      · exact hx.elim
      · rename_i hne
        refine sound_pure r hd ?_ hx
        obtain ⟨d, hdd, _, htd⟩ := run_under hS hti w
        cases d <;> first
          | (exfalso; exact hne (by rw [← htd]; rfl))
          | simp [execOp, r.eval hy, Instr.makeInterface, hdd]
    · exact hx.elim
  | makeFunc f fs cs =>
    simp only [exec] at hx
    obtain ⟨vs, hx, h1, h2⟩ := vals_spec _ _ hx
    obtain ⟨us, hx, h3, h4⟩ := vals_spec _ _ hx
    exact sound_pure r hd (by simp only [execOp, vals_map r h1 h2, vals_map r h3 h4, Instr.makeFunc]; rfl) hx
  | slice t y lo hi mx =>
    simp only [exec] at hx
    split at hx
    · rename_i el hti
      split at hx
      · rename_i te p m cap hte hy; exact sound_slice hS r hd rfl hti rfl hte hy hx
      · exact sound_raw' r hd hx
    · exact sound_raw' r hd hx
  | fieldAddr t y i =>
    simp only [exec] at hx
    split at hx
    · rename_i fs hti
      split at hx
      · rename_i k u hf; exact sound_fieldAddr hS r hd rfl hti rfl hf hx
      · exact hx.elim
    · exact hx.elim
  | field t y i =>
    simp only [exec] at hx
    split at hx
    · rename_i fs hti
      split at hx
      · rename_i k u hf
        split at hx
        · rename_i cs tu hy htu
          split at hx
          · rename_i vs hvs; exact sound_field hS r hd rfl hti rfl hf hy htu hx hvs
          · exact hx.elim
        · exact hx.elim
      · exact hx.elim
    · exact hx.elim
  | indexAddr t y z =>
    simp only [exec] at hx
    split at hx
    · rename_i k i hz; exact sound_indexAddr hS r hd rfl hz hx
    · exact hx.elim
  | extract y i =>
    simp only [exec] at hx
    split at hx
    · rename_i vs hy
      split at hx
      · rename_i v hv; exact sound_extract r hd rfl hy hv hx
      · exact hx.elim
    · exact hx.elim
  | makeSlice t y z =>
    simp only [exec] at hx
    split at hx
    · rename_i el hti
      split at hx
      · rename_i te k c hte hy hz; exact sound_makeSlice hS r hd rfl hti rfl hte hy hz hx
      · exact hx.elim
    · exact hx.elim
  | panic y =>
    simp only [exec] at hx
    split at hx
    · rename_i t v hy
      intro next Q hk hE
      unfold Oper.wp
      have : (execOp a.eval ⟨dst, .panic y, ty, pos, after, guard⟩).run P w = .halt (.panic (.iface t v)) w := by
        simp [execOp, r.eval hy, Instr.panic]
      rw [this]
      exact hE _ h a w hx r.mv r.nod
    · exact hx.elim
  | call c =>
    obtain ⟨callee, args, ts⟩ := c
    cases callee with
    | value f =>
      simp only [exec] at hx
      split at hx
      · rename_i fv hf; exact sound_callFn hS r hd rfl hf hx
      · exact hx.elim
    | invoke y m => exact sound_raw' r hd hx
    | builtin b =>
      cases b with
      | len =>
        simp only [exec] at hx
        split at hx
        · rename_i y hargs
          have hy0 := r.eval_ok y
          split at hx
          · rename_i p k c hy
            rw [hy] at hy0
            split at hx
            · rename_i el hti; exact sound_len hS r hd rfl hargs hti rfl hy0 hx
            · exact hx.elim
          · rename_i u k hy
            rw [hy] at hy0
            split at hx
            · rename_i el hti; exact sound_len hS r hd rfl hargs hti rfl hy0.1 hx
            · exact hx.elim
          · exact sound_raw' r hd hx
        · exact hx.elim
      | max =>
        simp only [exec] at hx
        split at hx
        · rename_i y z hargs
          split at hx
          · rename_i k m k' m' hy hz
            split at hx
            · have hargs' : args = #[y, z] := by rw [← hargs]
              refine sound_pure r hd ?_ hx
              simp only [execOp, resolve, Sem.run_bind, Sem.run_pure, Result.andThen_ok, invoke, builtin, Builtin.max_, hargs']
              simp [r.eval hy, r.eval hz, Builtin.max2, mx]
            · exact sound_raw' r hd hx
          · exact sound_raw' r hd hx
        · exact sound_raw' r hd hx
      | min =>
        simp only [exec] at hx
        split at hx
        · rename_i y z hargs
          split at hx
          · rename_i k m k' m' hy hz
            split at hx
            · have hargs' : args = #[y, z] := by rw [← hargs]
              refine sound_pure r hd ?_ hx
              simp only [execOp, resolve, Sem.run_bind, Sem.run_pure, Result.andThen_ok, invoke, builtin, Builtin.min_, hargs']
              simp [r.eval hy, r.eval hz, Builtin.min2, mn]
            · exact sound_raw' r hd hx
          · exact sound_raw' r hd hx
        · exact sound_raw' r hd hx
      | cap =>
        simp only [exec] at hx
        split at hx
        · rename_i y hargs
          split at hx
          · rename_i p k c hy
            split at hx
            · rename_i el hti
              have hargs' : args = #[y] := by rw [← hargs]
              refine sound_pure r hd ?_ hx
              cases hts : ts.toList with
              | nil => rw [hts] at hti; cases hti
              | cons t ts' =>
                rw [hts] at hti
                simp only [List.head?_cons, Option.bind_some] at hti
                obtain ⟨d, hdd, hag, htd'⟩ := run_under hS hti w
                cases d <;> simp only [tdOf] at htd' <;> try cases htd'
                have h0 : ts[0]? = some t := by rw [← Array.getElem?_toList, hts]; rfl
                simp [execOp, hargs', resolve, invoke, builtin, r.eval hy, Builtin.cap_, h0, hdd, goInt]
            · exact hx.elim
          · exact sound_raw' r hd hx
        · exact hx.elim
      | append =>
        simp only [exec] at hx
        split at hx
        · rename_i y z t u hargs hts
          split at hx
          · rename_i el el' hti htu
            split at hx
            · rename_i te hte
              split at hx
              · rename_i p k cap hy; exact sound_append hS r hd rfl hargs hts hti rfl htu rfl hte hy hx
              · exact hx.elim
            · exact hx.elim
          · exact hx.elim
        · exact hx.elim
      | _ => exact sound_raw' r hd hx
  | _ => exact sound_raw' r hd hx

end Go.Vc
