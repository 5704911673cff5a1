/- The rules by which the calculus's stops are passed. -/
import Derived.Test.YtfihllhldnaofaaVcDraw
import Derived.Below
namespace Go.Vc
open Go.RowKit
set_option linter.constructorNameAsVariable false
/-- A call that returns. -/
def Rets (P : Program) (f : FuncId) (args : List Value) (h : Heap) (R : Value → Heap → Prop) : Prop :=
  CallsH P f args h fun o h' => match o with
    | .ret v => R v h'
    | .pan _ => False
/-- A call that leaves the view as it was. -/
def Pure (P : Program) (f : FuncId) (args : List Value) (h : Heap) (x : Value) : Prop := Rets P f args h fun v h' => v = x ∧ h' = h
variable {P : Program} {f : FuncId} {args : List Value} {h : Heap} {K : Value → Heap → Prop} {E : List PanicEntry → Heap → Prop} {R : Value → Heap → Prop} {w : World}
theorem call_r (hc : Rets P f args h R) (hk : ∀ v h', R v h' → K v h') : Call P f args h K E := by
  unfold Call
  refine CallsH.mono hc fun o h' hh => ?_
  cases o with
  | ret v => exact hk v h' hh
  | pan c => exact hh.elim
theorem callX_r (hc : Rets P f args h R) (hk : ∀ v h', R v h' → h.le h' ∧ K v h') : CallX P f args h K := by
  unfold CallX
  refine CallsH.mono hc fun o h' hh => ?_
  cases o with
  | ret v => exact hk v h' hh
  | pan c => exact hh.elim
theorem call_p {x : Value} (hc : Pure P f args h x) (hk : K x h) : Call P f args h K E := call_r hc (by rintro v h' ⟨rfl, rfl⟩; exact hk)
theorem callX_p {x : Value} (hc : Pure P f args h x) (hk : K x h) : CallX P f args h K := callX_r hc (by rintro v h' ⟨rfl, rfl⟩; exact ⟨Heap.le_refl _, hk⟩)
theorem Rets.mono {R' : Value → Heap → Prop} (hc : Rets P f args h R) (hr : ∀ v h', R v h' → R' v h') : Rets P f args h R' :=
  CallsH.mono hc fun o h' hh => by
    cases o with
    | ret v => exact hr v h' hh
    | pan c => exact hh.elim
theorem rets {S : Sig} (hS : SigOk P S) {fn : Func} (hf : P.funcs[f]? = some fn) (F : Fs) {k : Nat} (hok : fnOk F fn k = true) (hl : args.length = k) (hx : Goal P S F fn args h fun o h' => match o with
    | .ret v => R v h'
    | .pan _ => False) : Rets P f args h R := by
  subst hl; exact calls hS hf F hok hx
theorem CallsH.shrink {R R' : Out → Heap → Prop} (hc : CallsH P f args h R) (hr : ∀ o h', R o h' → ∃ h'' : Heap, h''.le h' ∧ R' o h'') : CallsH P f args h R' := by
  intro w hv
  refine (hc w hv).mono ?_
  rintro e w' ⟨h', m, hm⟩
  have key : ∀ o, R o h' → ∃ h'' : Heap, Moves h w h'' w' ∧ R' o h'' := by
    intro o ho
    obtain ⟨h'', hl, hR⟩ := hr o h' ho
    refine ⟨h'', ⟨fun b x hb => m.view b x (hl b x hb), m.keep, fun b hb => m.dom b ?_, m.size, m.out⟩, hR⟩
    cases hh : h'' b with
    | none => exact absurd hh hb
    | some x => rw [hl b x hh]; simp
  cases e with
  | returned v => exact key _ hm
  | panicked c => exact key _ hm
  | outgrown => exact ⟨h', m, hm⟩
/-- The same, where the view may be left smaller. -/
theorem retsL {S : Sig} (hS : SigOk P S) {fn : Func} (hf : P.funcs[f]? = some fn) (F : Fs) {k : Nat} (hok : fnOk F fn k = true) (hl : args.length = k) (hx : Goal P S F fn args h fun o h' => match o with
    | .ret v => ∃ h'' : Heap, h''.le h' ∧ R v h''
    | .pan _ => False) : Rets P f args h R := by
  subst hl
  refine (calls hS hf F hok hx).shrink fun o h' hh => ?_
  cases o with
  | ret v => exact hh
  | pan c => exact hh.elim
theorem pur {S : Sig} (hS : SigOk P S) {fn : Func} (hf : P.funcs[f]? = some fn) (F : Fs) {k : Nat} (hok : fnOk F fn k = true) {x : Value} (hl : args.length = k) (hx : Goal P S F fn args h fun o h' => match o with
    | .ret v => v = x ∧ h' = h
    | .pan _ => False) : Pure P f args h x := by
  subst hl; exact calls hS hf F hok hx
theorem selP {p : Prop} {_ : Decidable p} {t f : Prop} (ht : p → t) (hf : ¬ p → f) : @Bool.rec (fun _ => Prop) f t (decide p) := by
  by_cases h : p
  · rw [decide_eq_true h]; exact ht h
  · rw [decide_eq_false h]; exact hf h
theorem selNP {p : Prop} {_ : Decidable p} {t f : Prop} (ht : ¬ p → t) (hf : p → f) : @Bool.rec (fun _ => Prop) f t (!decide p) := by
  by_cases h : p
  · rw [decide_eq_true h]; exact hf h
  · rw [decide_eq_false h]; exact ht h
theorem selB {b : Bool} {t f : Prop} (ht : b = true → t) (hf : b = false → f) : @Bool.rec (fun _ => Prop) f t b := by
  cases b
  · exact hf rfl
  · exact ht rfl
theorem selNB {b : Bool} {t f : Prop} (ht : b = false → t) (hf : b = true → f) : @Bool.rec (fun _ => Prop) f t (!b) := by
  cases b
  · exact ht rfl
  · exact hf rfl
theorem wrap_i64 {x : Int} (h0 : -9223372036854775808 ≤ x) (h1 : x ≤ 9223372036854775807) : IntKind.i64.wrap x = x := by
  simp [IntKind.wrap, IntKind.bits, IntKind.signed]; omega
theorem ar_in {x : Int} {K : Int → Prop} (h0 : -9223372036854775808 ≤ x) (h1 : x ≤ 9223372036854775807) (hk : K x) : Ar .i64 x K := by
  rw [ar_iff, wrap_i64 h0 h1]; exact hk
theorem ar_any {k : IntKind} {x : Int} {K : Int → Prop} (hk : K (k.wrap x)) : Ar k x K := ar_iff.2 hk
theorem ob {p q : Prop} (hp : p) (hq : q) : Ob p q := ob_iff.2 ⟨hp, hq⟩
theorem ld {b off : Nat} {v : Value} {K : Value → Prop} (hr : rd h b off = some v) (hk : K v) : Ld h b off K := by unfold Ld; exact ⟨v, hr, hk⟩
theorem ldn {b off n : Nat} {vs : List Value} {K : List Value → Prop} (hr : rdn h b off n = some vs) (hk : K vs) : LdN h b off n K := by unfold LdN; exact ⟨vs, hr, hk⟩
theorem st {b off : Nat} {vs : List Value} {K : Heap → Prop} {cs : List Value} {t : TypeId} (hb : h b = some (.cells cs.toArray t (0, 0))) (hl : off + vs.length ≤ cs.length) (hk : K (h.set b (.cells (wrls cs off vs).toArray t (0, 0)))) : St h b off vs K := by
  unfold St; exact ⟨cs.toArray, t, hb, by simpa using hl, hk⟩
theorem new {cs : List Value} {t : TypeId} {K : Nat → Heap → Prop} (hk : ∀ b, h b = none → K b (h.set b (.cells cs.toArray t))) : New h cs t K := by unfold New; exact hk
theorem lp {body : (Ex → Env → Heap → Prop) → Env → Heap → Prop} {K : Ex → Env → Heap → Prop} {e : Env} (ls bs : List Nat) (Inv : Nat → List Slot → List (Option (List Value)) → Heap → Prop) (n : Nat) (h0 : Inv n (ls.map e.s) (bs.map e.b) h)
    (hs : ∀ n vs cs h, Inv n vs cs h → body (fun x e' h' => match x with | .normal => ∃ m, m < n ∧ Inv m (ls.map e'.s) (bs.map e'.b) h' | .exit i => K (.exit i) e' h' | .ret => K .ret e' h' | .pan c => K (.pan c) e' h') (envIn ls bs vs cs) h) : Lp body K e h := by
  unfold Lp; exact ⟨ls, bs, Inv, ⟨n, h0⟩, hs⟩
/-- A contract for every memory speaks of what was there: a law's. -/
theorem below_of_pure {x : Value} (hc : ∀ h, (∀ b o, h b = some o → (w.heap[b]? = some o)) → (∀ b, h b = w.heap[b]?) → Pure P f args h x) : Calls P f args.toArray w fun e w' => e = .returned x ∧ Below w.heap.size w w' := by
  refine (hc (fun b => w.heap[b]?) (fun _ _ h => h) (fun _ => rfl) w (fun _ _ h => h)).mono ?_
  rintro e w' ⟨h', m, hm⟩
  cases e with
  | returned v =>
    obtain ⟨rfl, rfl⟩ := hm
    refine ⟨rfl, m.out.1, m.out.2.1, m.out.2.2, m.size, fun b hb => ?_⟩
    rw [Array.getElem?_eq_getElem hb]
    exact m.view b _ (Array.getElem?_eq_getElem hb)
  | panicked c => exact hm.elim
  | outgrown => exact hm.elim
theorem rd_set {b off : Nat} {cs : Array Value} {t : TypeId} {fz : Nat × Nat} : rd (h.set b (.cells cs t fz)) b off = cs[off]? := by simp [rd, Heap.set]
theorem rd_ne {b c off : Nat} {o : Obj} (hne : b ≠ c) : rd (h.set c o) b off = rd h b off := by simp [rd, Heap.set, hne]
end Go.Vc
