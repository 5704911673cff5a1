/- Part 1 of the lemmas on which the law rests: what functions of the program and of the reference do; no conditions but those that each lemma states. -/
import Derived.Calls
import Derived.KernelRfl
import Derived.Laws.Sem
import Derived.Deep.Quiet
import Derived.Scope
namespace Go.Vc
set_option linter.constructorNameAsVariable false
abbrev Heap := Nat → Option Obj
def Heap.set (h : Heap) (b : Nat) (o : Obj) : Heap := fun c => if c = b then some o else h c
def Heap.le (h h' : Heap) : Prop := ∀ b o, h b = some o → h' b = some o
inductive Slot where
  | v (x : Value)
  | l (t off : Nat)
  | r (t len : Nat)
  | x
structure Env where
  s : Nat → Slot
  b : Nat → Option (List Value)
def Env.get (e : Env) : Operand → Slot
  | .tmp t => e.s t
  | .const v => .v v
  | .global g => .v (.pointer (some ⟨g, 0, none⟩))
  | .func f => .v (.func (.func f) #[] #[])
abbrev Bx := Option (Nat × List Value)
def Env.put (e : Env) (d : Option Nat) (x : Slot) (bx : Bx) : Env :=
  ⟨match d with | none => e.s | some d => fun t => if t = d then x else e.s t,
   match bx with | none => e.b | some (d, cs) => fun t => if t = d then some cs else e.b t⟩
inductive TD where
  | bas | num (k : IntKind) | txt | str (fs : List (Nat × TypeId)) | arr (n : Nat) (e : TypeId) | sl (e : TypeId) | ptr (e : TypeId) | ifc | oth
structure TI where
  size : Nat
  bytes : Nat
  zero : List Value
  agg : Bool
  d : TD
inductive Tree (α : Type) where
  | leaf
  | node (l : Tree α) (k : Nat) (v : α) (r : Tree α)
def Tree.find {α : Type} (i : Nat) : Tree α → Option α
  | .leaf => none
  | .node l k v r => match Nat.beq i k with
    | true => some v
    | false => match Nat.blt i k with
      | true => l.find i
      | false => r.find i
structure Sig where
  ty : Tree TI
  lo : Nat
  nf : Nat
inductive PT where
  | nil
  | non
  | one (i : Nat) (r : PT)
  | alt (i : Nat) (t r : PT)
structure Fs where
  L : List Nat := []
  LL : List Nat := []
  plans : List (Nat × List Nat) := []
  trees : List (Nat × PT) := []
  M : List Nat := []
inductive Out where
  | ret (v : Value)
  | pan (c : List PanicEntry)
inductive Ex where
  | normal
  | exit (id : Nat)
  | ret
  | pan (c : List PanicEntry)
structure Moves (h : Heap) (w : World) (h' : Heap) (w' : World) : Prop where
  view : ∀ b o, h' b = some o → w'.heap[b]? = some o
  keep : ∀ b, b < w.heap.size → h b = none → w'.heap[b]? = w.heap[b]?
  dom : ∀ b, h' b ≠ none → h b ≠ none ∨ w.heap.size ≤ b
  size : w.heap.size ≤ w'.heap.size
  out : w'.os = w.os ∧ w'.tape = w.tape ∧ w'.output = w.output
def CallsH (P : Program) (f : FuncId) (args : List Value) (h : Heap) (R : Out → Heap → Prop) : Prop :=
  ∀ w : World, (∀ b o, h b = some o → w.heap[b]? = some o) →
    Calls P f args.toArray w fun e w' => ∃ h' : Heap, Moves h w h' w' ∧
      match e with
      | .returned v => R (.ret v) h'
      | .panicked c => R (.pan c) h'
      | .outgrown => False
def Call_ (P : Program) (f : FuncId) (args : List Value) (h : Heap) (K : Value → Heap → Prop) (E : List PanicEntry → Heap → Prop) : Prop :=
  CallsH P f args h fun o h' => match o with | .ret v => K v h' | .pan c => E c h'
structure Call (P : Program) (f : FuncId) (args : List Value) (h : Heap) (K : Value → Heap → Prop) (E : List PanicEntry → Heap → Prop) : Prop where
  run : Call_ P f args h K E
theorem Call_def : Call = Call_ := by
  funext _ _ _ _ _ _; exact propext ⟨fun h => h.run, fun h => ⟨h⟩⟩
def CallX_ (P : Program) (f : FuncId) (args : List Value) (h : Heap) (K : Value → Heap → Prop) (E : List PanicEntry → Heap → Prop) : Prop :=
  CallsH P f args h fun o h' => match o with | .ret v => h.le h' ∧ K v h' | .pan c => E c h'
structure CallX (P : Program) (f : FuncId) (args : List Value) (h : Heap) (K : Value → Heap → Prop) (E : List PanicEntry → Heap → Prop) : Prop where
  run : CallX_ P f args h K E
theorem CallX_def : CallX = CallX_ := by
  funext _ _ _ _ _ _; exact propext ⟨fun h => h.run, fun h => ⟨h⟩⟩
def Ob_ (p K : Prop) : Prop := p ∧ K
structure Ob (p K : Prop) : Prop where
  run : Ob_ p K
theorem Ob_def : Ob = Ob_ := by
  funext _ _; exact propext ⟨fun h => h.run, fun h => ⟨h⟩⟩
def Ar_ (k : IntKind) (x : Int) (K : Int → Prop) : Prop := K (k.wrap x)
structure Ar (k : IntKind) (x : Int) (K : Int → Prop) : Prop where
  run : Ar_ k x K
theorem Ar_def : Ar = Ar_ := by
  funext _ _ _; exact propext ⟨fun h => h.run, fun h => ⟨h⟩⟩
def New_ (h : Heap) (cs : List Value) (t : TypeId) (K : Nat → Heap → Prop) : Prop :=
  ∀ b, h b = none → K b (h.set b (.cells cs.toArray t))
structure New (h : Heap) (cs : List Value) (t : TypeId) (K : Nat → Heap → Prop) : Prop where
  run : New_ h cs t K
theorem New_def : New = New_ := by
  funext _ _ _ _; exact propext ⟨fun h => h.run, fun h => ⟨h⟩⟩
def rd (h : Heap) (b off : Nat) : Option Value := match h b with
  | some (.cells c _ _) => c[off]?
  | _ => none
def rdn (h : Heap) (b : Nat) : Nat → Nat → Option (List Value)
  | _, 0 => some []
  | off, n + 1 => match rd h b off, rdn h b (off + 1) n with
    | some v, some r => some (v :: r)
    | _, _ => none
def Ld_ (h : Heap) (b off : Nat) (K : Value → Prop) : Prop := ∃ v, rd h b off = some v ∧ K v
structure Ld (h : Heap) (b off : Nat) (K : Value → Prop) : Prop where
  run : Ld_ h b off K
theorem Ld_def : Ld = Ld_ := by
  funext _ _ _ _; exact propext ⟨fun h => h.run, fun h => ⟨h⟩⟩
def LdN_ (h : Heap) (b off n : Nat) (K : List Value → Prop) : Prop := ∃ vs, rdn h b off n = some vs ∧ K vs
structure LdN (h : Heap) (b off n : Nat) (K : List Value → Prop) : Prop where
  run : LdN_ h b off n K
theorem LdN_def : LdN = LdN_ := by
  funext _ _ _ _ _; exact propext ⟨fun h => h.run, fun h => ⟨h⟩⟩
def Ptr_ (p : Option Addr) (K : Nat → Nat → Prop) : Prop := ∃ b off, p = some ⟨b, off, none⟩ ∧ K b off
structure Ptr (p : Option Addr) (K : Nat → Nat → Prop) : Prop where
  run : Ptr_ p K
theorem Ptr_def : Ptr = Ptr_ := by
  funext _ _; exact propext ⟨fun h => h.run, fun h => ⟨h⟩⟩
def LdP_ (h : Heap) (p : Option Addr) (k : Nat) (K : List Value → Prop) : Prop := ((p = none ∨ k = 0) ∧ K []) ∨ ∃ b off vs, p = some ⟨b, off, none⟩ ∧ rdn h b off k = some vs ∧ K vs
structure LdP (h : Heap) (p : Option Addr) (k : Nat) (K : List Value → Prop) : Prop where
  run : LdP_ h p k K
theorem LdP_def : LdP = LdP_ := by
  funext _ _ _ _; exact propext ⟨fun h => h.run, fun h => ⟨h⟩⟩
def wrl : List Value → Nat → Value → List Value
  | [], _, _ => []
  | _ :: r, 0, v => v :: r
  | a :: r, n + 1, v => a :: wrl r n v
def wrls (cs : List Value) (off : Nat) : List Value → List Value
  | [] => cs
  | v :: r => wrls (wrl cs off v) (off + 1) r
def St_ (h : Heap) (b off : Nat) (vs : List Value) (K : Heap → Prop) : Prop :=
  ∃ cs t, h b = some (.cells cs t (0, 0)) ∧ off + vs.length ≤ cs.size ∧ K (h.set b (.cells (wrls cs.toList off vs).toArray t (0, 0)))
structure St (h : Heap) (b off : Nat) (vs : List Value) (K : Heap → Prop) : Prop where
  run : St_ h b off vs K
theorem St_def : St = St_ := by
  funext _ _ _ _ _; exact propext ⟨fun h => h.run, fun h => ⟨h⟩⟩
def take : Nat → List Value → Option (List Value)
  | 0, _ => some []
  | _ + 1, [] => none
  | n + 1, a :: r => match take n r with
    | some t => some (a :: t)
    | none => none
def drop : Nat → List Value → List Value
  | 0, l => l
  | _ + 1, [] => []
  | n + 1, _ :: r => drop n r
def forceL : List Value → (List Value → Prop) → Prop
  | [], K => K []
  | a :: r, K => forceL r fun r' => K (a :: r')
def fillAt (place : Nat → Option Nat) (cs : List Value) : List (Nat × List Value) → Option (List Value)
  | [] => some cs
  | (i, vs) :: r => match place i with
    | some off => match (off + vs.length).ble cs.length with
      | true => fillAt place (wrls cs off vs) r
      | false => none
    | none => none
def Raw_ (P : Program) (o : Oper) (e : Env) (h : Heap) (K : Value → Heap → Prop) : Prop :=
  (∀ x ∈ o.op.operands, ∃ v, e.get x = .v v) ∧ ∀ ρ : Operand → Value, (∀ x ∈ o.op.operands, e.get x = .v (ρ x)) → ∀ w : World, (∀ b o, h b = some o → w.heap[b]? = some o) →
    ∃ v w' h', ((execOp ρ o).run P w = .ok (.value v) w' ∨ (execOp ρ o).run P w = .ok .skip w' ∧ v = undef) ∧ Moves h w h' w' ∧ K v h'
structure Raw (P : Program) (o : Oper) (e : Env) (h : Heap) (K : Value → Heap → Prop) : Prop where
  run : Raw_ P o e h K
theorem Raw_def : Raw = Raw_ := by
  funext _ _ _ _ _; exact propext ⟨fun h => h.run, fun h => ⟨h⟩⟩
def RawP_ (P : Program) (o : Oper) (e : Env) (K : Value → Prop) : Prop :=
  (∀ x ∈ o.op.operands, ∃ v, e.get x = .v v) ∧ ∃ v, K v ∧ ∀ ρ : Operand → Value, (∀ x ∈ o.op.operands, e.get x = .v (ρ x)) → ∀ w : World, (execOp ρ o).run P w = .ok (.value v) w
structure RawP (P : Program) (o : Oper) (e : Env) (K : Value → Prop) : Prop where
  run : RawP_ P o e K
theorem RawP_def : RawP = RawP_ := by
  funext _ _ _ _; exact propext ⟨fun h => h.run, fun h => ⟨h⟩⟩
def rawP (P : Program) (o : Oper) (e : Env) (h : Heap) (x : Bool) (K : Slot → Bx → Heap → Prop) : Prop := match x with
  | true => RawP P o e fun v => K (.v v) none h
  | false => Raw P o e h fun v h' => K (.v v) none h'
def isCell : Value → Bool
  | .agg _ => false
  | .tuple _ => false
  | _ => true
def cellsOk : List Value → Bool
  | [] => true
  | v :: r => match isCell v with
    | true => cellsOk r
    | false => false
def App_ (bytes size : Nat) (zero : List Value) (elem : TypeId) (h : Heap) (a : Option Addr) (n cap m : Nat) (vs : List Value) (K : Value → Heap → Prop) : Prop :=
  (n + m ≤ cap → cellsOk vs = true ∧ match a with
    | some ⟨b, off, none⟩ => ∃ cs t, h b = some (.cells cs t (0, 0)) ∧ off + n * size + vs.length ≤ cs.size ∧
        K (.slice a (n + m) cap) (h.set b (.cells (wrls cs.toList (off + n * size) vs).toArray t (0, 0)))
    | some _ => False
    | none => vs = [] ∧ K (.slice none (n + m) cap) h) ∧
  (cap < n + m → (n + m) * bytes ≤ 2 ^ 44 ∧ n + m ≤ 2 ^ 44 ∧ ∃ old, (match a with
    | some ⟨b, off, none⟩ => rdn h b off (n * size) = some old
    | some _ => False
    | none => n = 0 ∧ old = []) ∧
    ∀ b c, h b = none → n + m ≤ c → K (.slice (some ⟨b, 0, none⟩) (n + m) c) (h.set b (.cells (old ++ vs ++ (List.replicate (c - (n + m)) zero).flatten).toArray elem)))
structure App (bytes size : Nat) (zero : List Value) (elem : TypeId) (h : Heap) (a : Option Addr) (n cap m : Nat) (vs : List Value) (K : Value → Heap → Prop) : Prop where
  run : App_ bytes size zero elem h a n cap m vs K
theorem App_def : App = App_ := by
  funext _ _ _ _ _ _ _ _ _ _ _; exact propext ⟨fun h => h.run, fun h => ⟨h⟩⟩
def slotIn (ls : List Nat) (vs : List Slot) (t : Nat) : Slot :=
  match ls, vs with
  | i :: ls, v :: vs => if t = i then v else slotIn ls vs t
  | _, _ => .x
def boxIn (bs : List Nat) (cs : List (Option (List Value))) (t : Nat) : Option (List Value) :=
  match bs, cs with
  | i :: bs, c :: cs => if t = i then c else boxIn bs cs t
  | _, _ => none
def Slot.clean (bs : List Nat) : Slot → Slot
  | .l t off => if bs.contains t then .l t off else .x
  | .r t n => if bs.contains t then .r t n else .x
  | s => s
def envIn (ls bs : List Nat) (vs : List Slot) (cs : List (Option (List Value))) : Env := ⟨fun t => (slotIn ls vs t).clean bs, boxIn bs cs⟩
def Lp_ (body : (Ex → Env → Heap → Prop) → Env → Heap → Prop) (K : Ex → Env → Heap → Prop) (e : Env) (h : Heap) : Prop :=
  ∃ (ls bs : List Nat) (Inv : Nat → List Slot → List (Option (List Value)) → Heap → Prop), (∃ n, Inv n (ls.map e.s) (bs.map e.b) h) ∧ ∀ n vs cs h, Inv n vs cs h →
    body (fun x e' h' => match x with | .normal => ∃ m, m < n ∧ Inv m (ls.map e'.s) (bs.map e'.b) h' | .exit i => K (.exit i) e' h' | .ret => K .ret e' h' | .pan c => K (.pan c) e' h') (envIn ls bs vs cs) h
structure Lp (body : (Ex → Env → Heap → Prop) → Env → Heap → Prop) (K : Ex → Env → Heap → Prop) (e : Env) (h : Heap) : Prop where
  run : Lp_ body K e h
theorem Lp_def : Lp = Lp_ := by
  funext _ _ _ _; exact propext ⟨fun h => h.run, fun h => ⟨h⟩⟩
def sel (b : Bool) (t f : Prop) : Prop := @Bool.rec (fun _ => Prop) f t b
def rdBox (e : Env) (t off n : Nat) : Option (List Value) := match e.b t with
  | some cs => take n (drop off cs)
  | none => none
def load (ti : TI) (x : Slot) (e : Env) (h : Heap) (K : Slot → Bx → Heap → Prop) : Prop :=
  match x with
  | .l t off => match rdBox e t off ti.size with
    | some vs => match ti.agg with
      | true => forceL vs fun vs => K (.v (.agg ⟨vs⟩)) none h
      | false => match vs with
        | [v] => K (.v v) none h
        | _ => False
    | none => False
  | .v (.pointer (some ⟨b, off, none⟩)) => match ti.agg with
    | true => LdN h b off ti.size fun vs => K (.v (.agg ⟨vs⟩)) none h
    | false => match ti.size with
      | 1 => Ld h b off fun v => K (.v v) none h
      | _ => False
  | _ => False
def cellsOf : Value → List Value
  | .agg cs => cs.toList
  | v => [v]
def cellsAt (ti : TI) (v : Value) (K : List Value → Prop) : Prop :=
  match ti.agg with
  | true => match v with
    | .agg cs => forceL cs.toList fun vs => match vs.length.beq ti.size with
      | true => K vs
      | false => False
    | _ => False
  | false => match isCell v with
    | true => K [v]
    | false => False
def store (ti : TI) (x : Slot) (v : Value) (e : Env) (h : Heap) (K : Slot → Bx → Heap → Prop) : Prop :=
  cellsAt ti v fun vs => match cellsOk vs with
  | false => False
  | true => match x with
  | .l t off => match e.b t with
    | some cs => match (off + vs.length).ble cs.length with
      | true => K (.v undef) (some (t, wrls cs off vs)) h
      | false => False
    | none => False
  | .v (.pointer (some ⟨b, off, none⟩)) => St h b off vs fun h' => K (.v undef) none h'
  | _ => False
def vals (e : Env) : List Operand → (List Value → Prop) → Prop
  | [], K => K []
  | o :: r, K => match e.get o with
    | .v x => vals e r fun r' => K (x :: r')
    | _ => False
def parts (e : Env) (tyOf : Nat → Option TI) : List (Nat × Operand) → (List (Nat × List Value) → Prop) → Prop
  | [], K => K []
  | (i, o) :: r, K => match e.get o, tyOf i with
    | .v x, some ti => cellsAt ti x fun vs => parts e tyOf r fun r' => K ((i, vs) :: r')
    | _, _ => False
def sameKind : IntKind → IntKind → Bool
  | .i64, .i64 => true
  | .u8, .u8 => true
  | .i8, .i8 => true
  | .u64, .u64 => true
  | .i32, .i32 => true
  | .u32, .u32 => true
  | _, _ => false
def mx (x y : Int) : Int := if x < y then y else x
def mn (x y : Int) : Int := if y < x then y else x
def bits2 (op : BinOp) (k : IntKind) (x y : Int) : Int :=
  let a := BitVec.ofInt k.bits x
  let b := BitVec.ofInt k.bits y
  match op with
  | .and => k.wrap (a &&& b).toNat
  | .or => k.wrap (a ||| b).toNat
  | .xor => k.wrap (a ^^^ b).toNat
  | _ => k.wrap (a &&& ~~~b).toNat
def binInt (op : BinOp) (k : IntKind) (a b : Int) (K : Value → Prop) (raw : Prop) : Prop :=
  match op with
  | .add => Ar k (a + b) fun n => K (.int k n)
  | .sub => Ar k (a - b) fun n => K (.int k n)
  | .mul => Ar k (a * b) fun n => K (.int k n)
  | .quo => Ob (b ≠ 0) (Ar k (a.tdiv b) fun n => K (.int k n))
  | .rem => Ob (b ≠ 0) (K (.int k (a.tmod b)))
  | .eql => K (.bool (decide (a = b)))
  | .neq => K (.bool (!decide (a = b)))
  | .lss => K (.bool (decide (a < b)))
  | .leq => K (.bool (decide (a ≤ b)))
  | .gtr => K (.bool (decide (b < a)))
  | .geq => K (.bool (decide (b ≤ a)))
  | .and => K (.int k (bits2 .and k a b))
  | .or => K (.int k (bits2 .or k a b))
  | .xor => K (.int k (bits2 .xor k a b))
  | .andNot => K (.int k (bits2 .andNot k a b))
  | _ => raw
def Sub_ (a : Option Addr) (cap l size : Nat) (K : Option Addr → Prop) : Prop :=
  ∀ oa, (cap ≠ l → oa = a.map fun a => a.add (l * size)) → (cap = l → oa = a) → K oa
structure Sub (a : Option Addr) (cap l size : Nat) (K : Option Addr → Prop) : Prop where
  run : Sub_ a cap l size K
theorem Sub_def : Sub = Sub_ := by
  funext _ _ _ _ _; exact propext ⟨fun h => h.run, fun h => ⟨h⟩⟩
def sliceLo (size : Nat) (a : Option Addr) (cap : Nat) (lo : Option Slot) (h : Nat) (K : Value → Prop) : Prop :=
  match lo with
  | none => K (.slice a h cap)
  | some (.v (.int _ l)) => Ob (0 ≤ l ∧ l ≤ h) (Sub a cap l.toNat size fun oa => K (.slice oa (h - l.toNat) (cap - l.toNat)))
  | some _ => False
def sliceOf (size : Nat) (a : Option Addr) (n cap : Nat) (lo hi : Option Slot) (K : Value → Prop) : Prop :=
  match hi with
  | none => sliceLo size a cap lo n K
  | some (.v (.int _ x)) => Ob (0 ≤ x ∧ x ≤ cap) (sliceLo size a cap lo x.toNat K)
  | some _ => False
def memN (d : Nat) : List Nat → Bool
  | [] => false
  | i :: r => match Nat.beq d i with
    | true => true
    | false => memN d r
def mutF (F : Fs) : Operand → Bool
  | .func g => memN g F.M
  | _ => false
def isLocal (F : Fs) : Option Nat → Option Nat
  | some d => match memN d F.L with
    | true => some d
    | false => none
  | none => none
def newVar (F : Fs) (t : TypeId) (d : Option Nat) (cs : List Value) (e : Env) (h : Heap) (K : Slot → Bx → Heap → Prop) : Prop :=
  match isLocal F d with
  | some d => match e.b d with
    | none => forceL cs fun cs => K (.l d 0) (some (d, cs)) h
    | some _ => False
  | none => New h cs t fun b h' => K (.v (.pointer (some ⟨b, 0, none⟩))) none h'
def newRow (F : Fs) (t : TypeId) (d : Option Nat) (n : Nat) (cs : List Value) (e : Env) (h : Heap) (K : Slot → Bx → Heap → Prop) : Prop :=
  match isLocal F d with
  | some d => match e.b d with
    | none => forceL cs fun cs => K (.r d n) (some (d, cs)) h
    | some _ => False
  | none => New h cs t fun b h' => K (.v (.slice (some ⟨b, 0, none⟩) n n)) none h'
def places (S : Sig) (d : TD) : Option ((Nat → Option Nat) × (Nat → Option TI)) :=
  match d with
  | .str fs => some ((fun i => match fs[i]? with | some (o, _) => some o | none => none), (fun i => match fs[i]? with | some (_, t) => S.ty.find t | none => none))
  | .arr n el => some ((fun i => match S.ty.find el with | some ti => (match Nat.blt i n with | true => some (i * ti.size) | false => none) | none => none), (fun _ => S.ty.find el))
  | _ => none
def reps (n : Nat) (zero : List Value) : List Value := match n with
  | 0 => []
  | n + 1 => zero ++ reps n zero
def nth (ops : List Oper) (i : Nat) : Option Oper := match ops, i with
  | [], _ => none
  | o :: _, 0 => some o
  | _ :: r, i + 1 => nth r i
def lenOf (x : Slot) : Option Nat := match x with
  | .v (.slice _ n _) => some n
  | .v (.string s) => some s.size
  | .r _ n => some n
  | _ => none
def optGet (e : Env) : Option Operand → Option Slot
  | none => none
  | some o => some (e.get o)
def pickNat (k : Nat) : Option (List Value) → Option Value := fun vs => match vs with
  | some l => match k, l with
    | 0, v :: _ => some v
    | _, _ => none
  | none => none
def bld (S : Sig) (t : TypeId) (ps : List (Nat × Operand)) (e : Env) (K : Value → Prop) : Prop :=
  match S.ty.find t with
  | some ti => match places S ti.d with
    | none => False
    | some (pl, tyOf) => parts e tyOf ps fun vs => match fillAt pl ti.zero vs with
      | some cs => forceL cs fun cs => K (.agg ⟨cs⟩)
      | none => False
  | none => False
def appArg (e : Env) (size : Nat) (x : Slot) (h : Heap) (K : Nat → List Value → Prop) : Prop :=
  match x with
  | .r t n => match e.b t with
    | some cs => match cs.length.beq (n * size) with
      | true => K n cs
      | false => False
    | none => False
  | .v (.slice p n _) => LdP h p (n * size) fun vs => K n vs
  | _ => False
def callFn (P : Program) (S : Sig) (x : Bool) (f : Value) (args : List Value) (h : Heap) (K : Slot → Bx → Heap → Prop) (E : List PanicEntry → Heap → Prop) : Prop :=
  match f with
  | .func (.func g) first captured => match Nat.ble S.lo g, Nat.blt g S.nf with
    | true, true => forceL (first.toList ++ args ++ captured.toList) fun args => match x with
      | true => CallX P g args h (fun v h' => K (.v v) none h') E
      | false => Call P g args h (fun v h' => K (.v v) none h') E
    | _, _ => False
  | _ => False
def isW : Op → Bool
  | .move _ | .assign _ | .pick .. | .alloc _ | .box .. | .build .. | .buildSlice .. | .load .. | .nilCheck _ | .binOp .. | .unOp .. | .convert .. | .makeInterface .. | .makeFunc .. | .slice .. | .fieldAddr .. | .field .. | .indexAddr .. | .index .. | .extract .. | .makeSlice .. => false
  | .call { callee := .value _, .. } => false
  | .call { callee := .builtin .len, .. } => false
  | .call { callee := .builtin .append, .. } => false
  | .call { callee := .builtin .max, .. } => false
  | .call { callee := .builtin .min, .. } => false
  | .call { callee := .builtin .cap, .. } => false
  | _ => true
def inL (l : List Nat) : Option Nat → Bool
  | some d => memN d l
  | none => false
def exec (P : Program) (S : Sig) (F : Fs) (x : Bool) (o : Oper) (e : Env) (h : Heap) (K : Slot → Bx → Heap → Prop) (E : List PanicEntry → Heap → Prop) : Prop :=
  let raw : Prop := match x && !isW o.op with
    | true => False
    | false => Raw P o e h fun v h' => K (.v v) none h'
  match o.op with
  | .move a | .assign a => match e.get a with
    | .x => False
    | s => K s none h
  | .pick c a b => match e.get c with
    | .v (.bool t) => sel t (match e.get a with
        | .x => False
        | s => K s none h) (match e.get b with
        | .x => False
        | s => K s none h)
    | _ => False
  | .alloc t => match S.ty.find t with
    | some ti => newVar F t o.dst ti.zero e h K
    | none => False
  | .box t a => match e.get a, S.ty.find t with
    | .v v, some ti => cellsAt ti v fun cs => newVar F t o.dst cs e h K
    | _, _ => False
  | .build t ps => bld S t ps.toList e fun v => K (.v v) none h
  | .buildSlice t n ps => match S.ty.find t with
    | some ⟨_, _, _, _, .sl el⟩ => match S.ty.find el with
      | some ti => match (n * ti.size).ble 16777216 with
        | true => parts e (fun _ => some ti) ps.toList fun vs => match fillAt (fun i => some (i * ti.size)) (reps n ti.zero) vs with
          | some cs => newRow F el o.dst n cs e h K
          | none => False
        | false => False
      | none => False
    | _ => False
  | .load t a => match S.ty.find t with
    | some ti => match inL F.LL o.dst with
      | true => match e.get a with
        | .l u off => load ti (.l u off) e h K
        | _ => False
      | false => load ti (e.get a) e h K
    | none => False
  | .store t a b => match S.ty.find t, e.get b with
    | some ti, .v v => store ti (e.get a) v e h K
    | _, _ => False
  | .nilCheck a => match e.get a with
    | .l t off => K (.l t off) none h
    | .v (.pointer (some a)) => K (.v (.pointer (some a))) none h
    | .v (.iface t v) => K (.v (.iface t v)) none h
    | .v (.func (.func g) a b) => K (.v (.func (.func g) a b)) none h
    | _ => raw
  | .binOp op t a b _ => match e.get a, e.get b with
    | .v (.int k m), .v (.int k' n) => match sameKind k k' with
      | true => binInt op k m n (fun v => K (.v v) none h) raw
      | false => raw
    | .v (.bool x), .v (.bool y) => match S.ty.find t with
      | some ⟨_, _, _, _, .bas⟩ => match op with
        | .eql => K (.v (.bool (x == y))) none h
        | .neq => K (.v (.bool (x != y))) none h
        | _ => raw
      | _ => raw
    | _, _ => rawP P o e h x K
  | .unOp op _ a => match op, e.get a with
    | .not, .v (.bool b) => K (.v (.bool (!b))) none h
    | .neg, .v (.int k n) => Ar k (0 - n) fun n => K (.v (.int k n)) none h
    | _, _ => raw
  | .convert s t a => match S.ty.find s, S.ty.find t, e.get a with
    | some _, some tj, .v (.int _ n) => match tj.d with
      | .num k => Ar k n fun n => K (.v (.int k n)) none h
      | _ => raw
    | _, _, _ => raw
  | .makeInterface t a => match S.ty.find t, e.get a with
    | some ti, .v v => match ti.d with
      | .ifc => False
      | _ => K (.v (.iface t v)) none h
    | _, _ => False
  | .makeFunc f fs cs => vals e fs.toList fun fs => vals e cs.toList fun cs => K (.v (.func f ⟨fs⟩ ⟨cs⟩)) none h
  | .slice t a lo hi mx => match S.ty.find t, mx with
    | some ⟨_, _, _, _, .sl el⟩, none => match S.ty.find el, e.get a with
      | some ti, .v (.slice p n cap) => sliceOf ti.size p n cap (optGet e lo) (optGet e hi) fun v => K (.v v) none h
      | _, _ => raw
    | _, _ => raw
  | .fieldAddr t a i => match S.ty.find t with
    | some ⟨_, _, _, _, .str fs⟩ => match fs[i]? with
      | some (k, _) => match e.get a with
        | .l u off => K (.l u (off + k)) none h
        | .v (.pointer (some ⟨b, off, none⟩)) => K (.v (.pointer (some ⟨b, off + k, none⟩))) none h
        | _ => False
      | none => False
    | _ => False
  | .field t a i => match S.ty.find t with
    | some ⟨_, _, _, _, .str fs⟩ => match fs[i]? with
      | some (k, u) => match e.get a, S.ty.find u with
        | .v (.agg cs), some ti => match take ti.size (drop k cs.toList) with
          | some vs => match ti.agg with
            | true => forceL vs fun vs => K (.v (.agg ⟨vs⟩)) none h
            | false => match vs with
              | [v] => K (.v v) none h
              | _ => False
          | none => False
        | _, _ => False
      | none => False
    | _ => False
  | .indexAddr t a i => match e.get i with
    | .v (.int _ i) => match S.ty.find t with
      | some ⟨_, _, _, _, .sl el⟩ => match S.ty.find el, e.get a with
        | some ti, .v (.slice p n _) => Ob (0 ≤ i ∧ i < n) (Ptr p fun b off => K (.v (.pointer (some ⟨b, off + i.toNat * ti.size, none⟩))) none h)
        | some ti, .r u n => Ob (0 ≤ i ∧ i < n) (K (.l u (i.toNat * ti.size)) none h)
        | _, _ => False
      | some ⟨_, _, _, _, .arr n el⟩ => match S.ty.find el, e.get a with
        | some ti, .v (.pointer (some ⟨b, off, none⟩)) => Ob (0 ≤ i ∧ i < n) (K (.v (.pointer (some ⟨b, off + i.toNat * ti.size, none⟩))) none h)
        | some ti, .l u off => Ob (0 ≤ i ∧ i < n) (K (.l u (off + i.toNat * ti.size)) none h)
        | _, _ => False
      | _ => False
    | _ => False
  | .index t a i => match e.get a, e.get i with
    | .v (.string s), .v (.int _ i) => match S.ty.find t with
      | some ⟨_, _, _, _, .txt⟩ => Ob (0 ≤ i ∧ i < s.size) (K (.v (.int .u8 ((s.data.toList.getD i.toNat 0).toNat : Nat))) none h)
      | _ => raw
    | _, _ => raw
  | .extract a i => match e.get a with
    | .v (.tuple vs) => match pickNat 0 (take 1 (drop i vs.toList)) with
      | some v => K (.v v) none h
      | none => False
    | _ => False
  | .makeSlice t n c => match S.ty.find t with
    | some ⟨_, _, _, _, .sl el⟩ => match S.ty.find el, e.get n, e.get c with
      | some ti, .v (.int .i64 n), .v (.int .i64 c) => Ob (n = c ∧ 0 ≤ n ∧ n * ti.bytes ≤ 2 ^ 44 ∧ n ≤ 2 ^ 44) (New h (List.replicate n.toNat ti.zero).flatten el fun b h' => K (.v (.slice (some ⟨b, 0, none⟩) n.toNat n.toNat)) none h')
      | _, _, _ => False
    | _ => False
  | .call { callee := .value f, args := args, .. } => match e.get f with
    | .v fv => vals e args.toList fun args => callFn P S (x && !mutF F f) fv args h K E
    | _ => False
  | .call { callee := .builtin .len, args := args, argTypes := ts } => match args.toList with
    | [a] => match e.get a with
      | .v (.slice _ n _) => match (ts.toList.head?).bind S.ty.find with
        | some ⟨_, _, _, _, .sl _⟩ => K (.v (.int .i64 n)) none h
        | _ => False
      | .r _ n => match (ts.toList.head?).bind S.ty.find with
        | some ⟨_, _, _, _, .sl _⟩ => K (.v (.int .i64 n)) none h
        | _ => False
      | _ => raw
    | _ => False
  | .call { callee := .builtin .max, args := args, .. } => match args.toList with
    | [a, b] => match e.get a, e.get b with
      | .v (.int k x), .v (.int k' y) => match sameKind k k' with
        | true => K (.v (.int k (mx x y))) none h
        | false => raw
      | _, _ => raw
    | _ => raw
  | .call { callee := .builtin .min, args := args, .. } => match args.toList with
    | [a, b] => match e.get a, e.get b with
      | .v (.int k x), .v (.int k' y) => match sameKind k k' with
        | true => K (.v (.int k (mn x y))) none h
        | false => raw
      | _, _ => raw
    | _ => raw
  | .call { callee := .builtin .cap, args := args, argTypes := ts } => match args.toList with
    | [a] => match e.get a with
      | .v (.slice _ _ c) => match (ts.toList.head?).bind S.ty.find with
        | some ⟨_, _, _, _, .sl _⟩ => K (.v (.int .i64 c)) none h
        | _ => False
      | _ => raw
    | _ => False
  | .call { callee := .builtin .append, args := args, argTypes := ts } => match args.toList, ts.toList with
    | [a, y], [t, u] => match S.ty.find t, S.ty.find u with
      | some ⟨_, _, _, _, .sl el⟩, some ⟨_, _, _, _, .sl _⟩ => match S.ty.find el with
        | some ti => match e.get a with
          | .v (.slice p n cap) => appArg e ti.size (e.get y) h fun m vs => App ti.bytes ti.size ti.zero el h p n cap m vs fun v h' => K (.v v) none h'
          | _ => False
        | none => False
      | _, _ => raw
    | _, _ => False
  | .panic a => match e.get a with
    | .v (.iface t v) => E [{ v := .iface t v, recovered := false }] h
    | _ => False
  | _ => raw
def guardOf (ops : List Oper) (g : Option (Nat × Bool)) : Option (Option Nat × Bool) := match g with
  | none => none
  | some (j, w) => match nth ops j with
    | some o => some (o.dst, w)
    | none => some (none, w)
def oneOp (P : Program) (S : Sig) (F : Fs) (x : Bool) (all : List Oper) (o : Oper) (e : Env) (h : Heap) (K : Env → Heap → Prop) (E : List PanicEntry → Heap → Prop) : Prop :=
  let run (e : Env) : Prop := exec P S F x o e h (fun s bx h' => K (e.put o.dst s bx) h') E
  let skip (e : Env) : Prop := K (e.put o.dst (.v undef) none) h
  match guardOf all o.guard with
  | none => run e
  | some (none, _) => skip e
  | some (some d, w) => match e.s d with
    | .v (.bool b) => sel b
      (match w with
        | true => run (e.put (some d) (.v (.bool true)) none)
        | false => skip (e.put (some d) (.v (.bool true)) none))
      (match w with
        | true => skip (e.put (some d) (.v (.bool false)) none)
        | false => run (e.put (some d) (.v (.bool false)) none))
    | .v (.tuple _) => skip e
    | _ => False
def wops (P : Program) (S : Sig) (F : Fs) (x : Bool) (all : List Oper) (K : Env → Heap → Prop) (E : List PanicEntry → Heap → Prop) : List Nat → Env → Heap → Prop
  | [], e, h => K e h
  | i :: r, e, h => match nth all i with
    | some o => oneOp P S F x all o e h (fun e' h' => wops P S F x all K E r e' h') E
    | none => False
def wopsL (P : Program) (S : Sig) (F : Fs) (all : List Oper) (K : Env → Heap → Prop) (E : List PanicEntry → Heap → Prop) : List Oper → Env → Heap → Prop
  | [], e, h => K e h
  | o :: r, e, h => oneOp P S F false all o e h (fun e' h' => wopsL P S F all K E r e' h') E
def planOf (id : Nat) : List (Nat × List Nat) → Option (List Nat)
  | [] => none
  | (i, p) :: r => match Nat.beq id i with
    | true => some p
    | false => planOf id r
def treeOf (id : Nat) : List (Nat × PT) → Option PT
  | [] => none
  | (i, p) :: r => match Nat.beq id i with
    | true => some p
    | false => treeOf id r
def wtree (P : Program) (S : Sig) (F : Fs) (all : List Oper) (K : Env → Heap → Prop) (E : List PanicEntry → Heap → Prop) : PT → Env → Heap → Prop
  | .nil, e, h => K e h
  | .non, _, _ => True
  | .one i r, e, h => match nth all i with
    | some o => oneOp P S F true all o e h (fun e' h' => wtree P S F all K E r e' h') E
    | none => False
  | .alt i t r, e, h => (match nth all i with
    | some o => oneOp P S F true all o e h (fun e' h' => wtree P S F all K E t e' h') E
    | none => False) ∧ wtree P S F all K E r e h
def drawn (P : Program) (S : Sig) (F : Fs) (id : Nat) (all : List Oper) (K : Env → Heap → Prop) (E : List PanicEntry → Heap → Prop) (e : Env) (h : Heap) : Prop :=
  match planOf id F.plans with
  | some p => wops P S F true all K E p e h
  | none => match treeOf id F.trees with
    | some t => wtree P S F all K E t e h
    | none => False
def den (P : Program) (S : Sig) (F : Fs) : Code → (Ex → Env → Heap → Prop) → Env → Heap → Prop
  | .skip, K, e, h => K .normal e h
  | .label _, K, e, h => K .normal e h
  | .region id ops dr, K, e, h => match dr with
    | false => wopsL P S F ops.toList (K .normal) (fun c h' => K (.pan c) e h') ops.toList e h
    | true => drawn P S F id ops.toList (K .normal) (fun c h' => K (.pan c) e h') e h
  | .seq a b, K, e, h => den P S F a (fun x e' h' => match x with | .normal => den P S F b K e' h' | .exit i => K (.exit i) e' h' | .ret => K .ret e' h' | .pan c => K (.pan c) e' h') e h
  | .cond c a b, K, e, h => match e.get c with
    | .v (.bool t) => sel t (den P S F a K e h) (den P S F b K e h)
    | _ => False
  | .block id c, K, e, h => den P S F c (fun x e' h' => match x with
    | .normal => K .normal e' h'
    | .exit i => match Nat.beq i id with
      | true => K .normal e' h'
      | false => K (.exit i) e' h'
    | .ret => K .ret e' h'
    | .pan c => K (.pan c) e' h') e h
  | .loop c, K, e, h => Lp (fun K e h => den P S F c K e h) K e h
  | .exit i, K, e, h => K (.exit i) e h
  | .ret, K, e, h => K .ret e h
  | .scope c, K, e, h => den P S F c K e h
  | _, _, _, _ => False
end Go.Vc
namespace Go.Vc
set_option linter.constructorNameAsVariable false
set_option linter.unusedSimpArgs false
set_option linter.unusedVariables false
def tdOf : TypeDesc → TD
  | .bool => .bas
  | .int k => .num k
  | .string => .txt
  | .struct fs => .str (fs.toList.map fun f => (f.offset, f.type))
  | .array n e => .arr n e
  | .slice e => .sl e
  | .pointer e => .ptr e
  | .interface _ => .ifc
  | _ => .oth
def aggD : TypeDesc → Bool
  | .struct _ => true
  | .array _ _ => true
  | _ => false
def tiOf (P : Program) (t : TypeId) : Option TI :=
  match P.info? t, P.underlying t with
  | some i, some d => match i.zero with
    | some z => some ⟨i.size, i.bytes, z.cells.toList, aggD d, tdOf d⟩
    | none => none
  | _, _ => none
def Tree.list {α : Type} : Tree α → List (Nat × α)
  | .leaf => []
  | .node l k v r => l.list ++ (k, v) :: r.list
theorem Tree.find_mem {α : Type} (i : Nat) (v : α) : ∀ t : Tree α, t.find i = some v → (i, v) ∈ t.list
  | .leaf, h => by simp [Tree.find] at h
  | .node l k u r, h => by
    unfold Tree.find at h
    split at h
    · rename_i hk
      have := Nat.eq_of_beq_eq_true hk
      simp only [Option.some.injEq] at h
      subst h; subst this
      simp [Tree.list]
    · split at h
      · have := Tree.find_mem i v l h; simp [Tree.list, this]
      · have := Tree.find_mem i v r h; simp [Tree.list, this]
structure SigOk (P : Program) (S : Sig) : Prop where
  ty : ∀ t ti, S.ty.find t = some ti → tiOf P t = some ti
  fn : ∀ g, S.lo ≤ g → g < S.nf → ∃ fn, P.funcs[g]? = some fn ∧ fn.body.isNone = false ∧ (fn.name == "runtime.NumGoroutine") = false
  mix : P.follows .mixedOrders = true
  one : ∀ t ti, S.ty.find t = some ti → ti.agg = false → ti.size = 1
  zero : ∀ t ti, S.ty.find t = some ti → ti.zero.length = ti.size
  flds : ∀ t ti fs, S.ty.find t = some ti → ti.d = .str fs → ∀ f ∈ fs, ∃ tj, S.ty.find f.2 = some tj ∧ tj.size ≠ 0
  elems : ∀ t ti k el, S.ty.find t = some ti → ti.d = .arr k el → (S.ty.find el).isSome
def tiB (S : Sig) (p : TypeId × TI) : Bool := (p.2.agg || p.2.size == 1) && p.2.zero.length == p.2.size && match p.2.d with
  | .str fs => fs.all fun f => match S.ty.find f.2 with
    | some tj => tj.size != 0
    | none => false
  | .arr _ el => (S.ty.find el).isSome
  | _ => true
def fnB (P : Program) (g : Nat) : Bool := match P.funcs[g]? with
  | some fn => !fn.body.isNone && !(fn.name == "runtime.NumGoroutine")
  | none => false
theorem SigOk.mk' {P : Program} {S : Sig} (ht : S.ty.list.map (fun p => tiOf P p.1) = S.ty.list.map (fun p => some p.2))
    (hf : (List.range' S.lo (S.nf - S.lo)).all (fnB P) = true) (hm : P.follows .mixedOrders = true)
    (h1 : S.ty.list.all (tiB S) = true) : SigOk P S where
  ty t ti h := by
    have hm := Tree.find_mem t ti _ h
    have := (List.map_inj_left.1 ht) _ hm
    exact this
  fn g h1 h2 := by
    have := List.all_eq_true.1 hf g (by simp [List.mem_range'_1]; omega)
    unfold fnB at this
    split at this
    · rename_i fn hfn
      simp at this
      exact ⟨fn, hfn, by simpa using this.1, by simpa using this.2⟩
    · simp at this
  mix := hm
  one t ti h ha := by
    have hm := Tree.find_mem t ti _ h
    have := List.all_eq_true.1 h1 _ hm
    simp only [tiB, Bool.and_eq_true] at this
    simpa [ha] using this.1.1
  zero t ti h := by
    have hm := Tree.find_mem t ti _ h
    have := List.all_eq_true.1 h1 _ hm
    simp only [tiB, Bool.and_eq_true] at this
    simpa using this.1.2
  flds t ti fs h hd f hf := by
    have hm := Tree.find_mem t ti _ h
    have := List.all_eq_true.1 h1 _ hm
    simp only [tiB, Bool.and_eq_true, hd] at this
    have := List.all_eq_true.1 this.2 f hf
    split at this
    · rename_i tj htj
      exact ⟨tj, htj, by simpa using this⟩
    · cases this
  elems t ti k el h hd := by
    have hm := Tree.find_mem t ti _ h
    have := List.all_eq_true.1 h1 _ hm
    simp only [tiB, Bool.and_eq_true, hd] at this
    exact this.2
theorem SigOk.info {P : Program} {S : Sig} (hS : SigOk P S) {t : TypeId} {ti : TI} (h : S.ty.find t = some ti) :
    ∃ i z d, P.info? t = some i ∧ i.zero = some z ∧ P.underlying t = some d ∧ i.size = ti.size ∧ i.bytes = ti.bytes ∧ z.cells.toList = ti.zero ∧ aggD d = ti.agg ∧ tdOf d = ti.d := by
  have h := hS.ty t ti h
  unfold tiOf at h
  split at h
  · rename_i i d hi hd
    split at h
    · rename_i z hz
      simp only [Option.some.injEq] at h
      subst h
      exact ⟨i, z, d, hi, hz, hd, rfl, rfl, rfl, rfl, rfl⟩
    · cases h
  · cases h
section
variable {P : Program} {S : Sig} (hS : SigOk P S)
include hS
theorem run_sizeOf {t : TypeId} {ti : TI} (h : S.ty.find t = some ti) (w : World) : (sizeOf t).run P w = .ok ti.size w := by
  obtain ⟨i, z, d, hi, hz, hd, hs, hb, hc, ha, ht⟩ := hS.info h
  simp [sizeOf, typeInfo, hi, hs]
theorem run_zero {t : TypeId} {ti : TI} (h : S.ty.find t = some ti) (w : World) : ∃ z, (zeroValue t).run P w = .ok z w ∧ z.cells.toList = ti.zero := by
  obtain ⟨i, z, d, hi, hz, hd, hs, hb, hc, ha, ht⟩ := hS.info h
  exact ⟨z, by simp [zeroValue, typeInfo, hi, hz], hc⟩
theorem run_under {t : TypeId} {ti : TI} (h : S.ty.find t = some ti) (w : World) : ∃ d, (underlying t).run P w = .ok d w ∧ aggD d = ti.agg ∧ tdOf d = ti.d := by
  obtain ⟨i, z, d, hi, hz, hd, hs, hb, hc, ha, ht⟩ := hS.info h
  exact ⟨d, by simp [underlying, hd], ha, ht⟩
theorem run_isAgg {t : TypeId} {ti : TI} (h : S.ty.find t = some ti) (w : World) : (isAgg t).run P w = .ok ti.agg w := by
  obtain ⟨d, hd, ha, _⟩ := run_under hS h w
  simp only [isAgg, Sem.run_bind, hd, Result.andThen_ok]
  rw [← ha]
  cases d <;> rfl
theorem run_bytes {t : TypeId} {ti : TI} (h : S.ty.find t = some ti) (w : World) : ∃ i, (typeInfo t).run P w = .ok i w ∧ i.bytes = ti.bytes ∧ i.size = ti.size := by
  obtain ⟨i, z, d, hi, hz, hd, hs, hb, hc, ha, ht⟩ := hS.info h
  exact ⟨i, by simp [typeInfo, hi], hb, hs⟩
end
def slotOk (β : Nat → Nat) (e : Env) : Slot → Value → Prop
  | .v x, v => v = x
  | .l t off, v => v = .pointer (some ⟨β t, off, none⟩) ∧ (e.b t).isSome
  | .r t n, v => v = .slice (some ⟨β t, 0, none⟩) n n ∧ (e.b t).isSome
  | .x, _ => True
structure Rel (D : List Deferred) (n : Nat) (h0 : Heap) (w0 : World) (β : Nat → Nat) (e : Env) (h : Heap) (a : Act) (w : World) : Prop where
  size : a.tmps.size = n
  nod : a.defers = D
  slot : ∀ t, slotOk β e (e.s t) (a.tmps.getD t undef)
  box : ∀ t cs, e.b t = some cs → (∃ ty, w.heap[β t]? = some (.cells cs.toArray ty (0, 0))) ∧ h (β t) = none ∧ w0.heap.size ≤ β t
  inj : ∀ t u, (e.b t).isSome → (e.b u).isSome → β t = β u → t = u
  mv : Moves h0 w0 h w
theorem Moves.refl {h : Heap} {w : World} (hv : ∀ b o, h b = some o → w.heap[b]? = some o) : Moves h w h w :=
  ⟨hv, fun _ _ _ => rfl, fun _ h => .inl h, Nat.le_refl _, rfl, rfl, rfl⟩
theorem Moves.trans {h0 h1 h2 : Heap} {w0 w1 w2 : World} (a : Moves h0 w0 h1 w1) (b : Moves h1 w1 h2 w2) : Moves h0 w0 h2 w2 where
  view := b.view
  keep x hx hn := by
    have h1n : h1 x = none := by
      cases h : h1 x with
      | none => rfl
      | some o => rcases a.dom x (by simp [h]) with h' | h'
                  · exact absurd hn h'
                  · omega
    rw [b.keep x (by have := a.size; omega) h1n, a.keep x hx hn]
  dom x hx := by
    rcases b.dom x hx with h' | h'
    · exact a.dom x h'
    · exact .inr (by have := a.size; omega)
  size := Nat.le_trans a.size b.size
  out := ⟨b.out.1.trans a.out.1, b.out.2.1.trans a.out.2.1, b.out.2.2.trans a.out.2.2⟩
theorem heap_lt {w : World} {b : Nat} {o : Obj} (h : w.heap[b]? = some o) : b < w.heap.size := (Array.getElem?_eq_some_iff.1 h).1
variable {D : List Deferred} {n : Nat} {h0 : Heap} {w0 : World} {β : Nat → Nat} {e : Env} {h : Heap} {a : Act} {w : World}
theorem Rel.fresh (r : Rel D n h0 w0 β e h a w) : h w.heap.size = none := by
  cases hh : h w.heap.size with
  | none => rfl
  | some o => have := heap_lt (r.mv.view _ _ hh); omega
theorem Rel.eval (r : Rel D n h0 w0 β e h a w) {x : Operand} {v : Value} (hx : e.get x = .v v) : a.eval x = v := by
  cases x with
  | tmp t => have := r.slot t; simp only [Env.get] at hx; rw [hx] at this; exact this
  | const c => simp only [Env.get, Slot.v.injEq] at hx; simp [Act.eval, hx]
  | global g => simp only [Env.get, Slot.v.injEq] at hx; simp [Act.eval, hx]
  | func f => simp only [Env.get, Slot.v.injEq] at hx; simp [Act.eval, hx]
theorem Rel.eval_ok (r : Rel D n h0 w0 β e h a w) (x : Operand) : slotOk β e (e.get x) (a.eval x) := by
  cases x with
  | tmp t => exact r.slot t
  | const c => rfl
  | global g => rfl
  | func f => rfl
theorem put_tmps (a : Act) (d : Option Nat) (v : Value) (t : Nat) (hd : ∀ d', d = some d' → d' < a.tmps.size) :
    (a.put d v).tmps.getD t undef = match d with | none => a.tmps.getD t undef | some d' => if t = d' then v else a.tmps.getD t undef := by
  cases d with
  | none => rfl
  | some d' =>
    have h := hd d' rfl
    simp only [Act.put, Array.getD_eq_getD_getElem?, Array.getElem?_setIfInBounds]
    by_cases e : t = d'
    · subst e; simp [h]
    · have e' : ¬ d' = t := fun h => e h.symm
      simp [e, e']
theorem put_size (a : Act) (d : Option Nat) (v : Value) : (a.put d v).tmps.size = a.tmps.size := by cases d <;> simp [Act.put]
theorem put_defers (a : Act) (d : Option Nat) (v : Value) : (a.put d v).defers = a.defers := by cases d <;> rfl
theorem Rel.put (r : Rel D n h0 w0 β e h a w) {h' : Heap} {w' : World} (m : Moves h w h' w') (d : Option Nat) (hd : ∀ d', d = some d' → d' < n) {s : Slot} {v : Value} (hs : slotOk β e s v) :
    Rel D n h0 w0 β (e.put d s none) h' (a.put d v) w' where
  size := by rw [put_size, r.size]
  nod := by rw [put_defers, r.nod]
  slot t := by
    rw [put_tmps a d v t (by rw [r.size]; exact hd)]
    cases d with
    | none => exact r.slot t
    | some d' =>
      simp only [Env.put]
      by_cases hh : t = d'
      · simp only [hh, if_true]; cases s <;> exact hs
      · simp only [hh, if_false]; have := r.slot t; revert this; cases e.s t <;> exact id
  box t cs hb := by
    obtain ⟨⟨ty, h1⟩, h2, h3⟩ := r.box t cs hb
    have hlt := heap_lt h1
    refine ⟨⟨ty, by rw [m.keep _ hlt h2, h1]⟩, ?_, h3⟩
    cases hh : h' (β t) with
    | none => rfl
    | some o => rcases m.dom (β t) (by simp [hh]) with h' | h'
                · exact absurd h2 h'
                · omega
  inj := r.inj
  mv := r.mv.trans m
theorem Rel.newBox (r : Rel D n h0 w0 β e h a w) (d : Nat) (hd : d < n) (hb : e.b d = none) (cs : List Value) (ty : TypeId) {s : Slot} {v : Value}
    (hs : (s = .l d 0 ∧ v = .pointer (some ⟨w.heap.size, 0, none⟩)) ∨ (∃ k, s = .r d k ∧ v = .slice (some ⟨w.heap.size, 0, none⟩) k k)) :
    Rel D n h0 w0 (fun t => if t = d then w.heap.size else β t) (e.put (some d) s (some (d, cs))) h (a.put (some d) v) { w with heap := w.heap.push (.cells cs.toArray ty (0, 0)) } where
  size := by rw [put_size, r.size]
  nod := by rw [put_defers, r.nod]
  slot t := by
    rw [put_tmps a (some d) v t (by rintro _ ⟨⟩; rw [r.size]; exact hd)]
    simp only [Env.put]
    by_cases hh : t = d
    · simp only [hh, if_true]
      rcases hs with ⟨rfl, rfl⟩ | ⟨k, rfl, rfl⟩ <;> simp [slotOk]
    · simp only [hh, if_false]
      have := r.slot t
      revert this
      cases hst : e.s t with
      | v x => exact id
      | x => exact id
      | l u off =>
        intro ⟨h1, h2⟩
        have hu : u ≠ d := fun hu => by rw [hu, hb] at h2; cases h2
        simp [slotOk, hu, h1, h2]
      | r u k =>
        intro ⟨h1, h2⟩
        have hu : u ≠ d := fun hu => by rw [hu, hb] at h2; cases h2
        simp [slotOk, hu, h1, h2]
  box t cs' hb' := by
    simp only [Env.put] at hb'
    by_cases hh : t = d
    · simp only [hh, if_true, Option.some.injEq] at hb' ⊢
      subst hb'
      exact ⟨⟨ty, by simp⟩, r.fresh, r.mv.size⟩
    · simp only [hh, if_false] at hb' ⊢
      obtain ⟨⟨ty', h1⟩, h2, h3⟩ := r.box t cs' hb'
      have hlt := heap_lt h1
      exact ⟨⟨ty', by rw [Array.getElem?_push_lt hlt]; rw [Array.getElem?_eq_getElem hlt] at h1; exact h1⟩, h2, h3⟩
  inj t u ht hu hβ := by
    simp only [Env.put] at ht hu
    by_cases h1 : t = d
    · by_cases h2 : u = d
      · rw [h1, h2]
      · simp only [h1, if_true, h2, if_false] at hβ hu
        obtain ⟨cs', hc⟩ := Option.isSome_iff_exists.1 hu
        obtain ⟨⟨ty', h3⟩, _, _⟩ := r.box u cs' hc
        have := heap_lt h3
        omega
    · by_cases h2 : u = d
      · simp only [h1, if_false, h2, if_true] at hβ ht
        obtain ⟨cs', hc⟩ := Option.isSome_iff_exists.1 ht
        obtain ⟨⟨ty', h3⟩, _, _⟩ := r.box t cs' hc
        have := heap_lt h3
        omega
      · simp only [h1, if_false, h2, if_false] at hβ ht hu
        exact r.inj t u ht hu hβ
  mv := {
    view := fun b o hb => by
      have h1 := r.mv.view b o hb
      have hlt := heap_lt h1
      show (w.heap.push _)[b]? = some o
      rw [Array.getElem?_push_lt hlt]; rw [Array.getElem?_eq_getElem hlt] at h1; exact h1
    keep := fun b hb hn => by
      have h1 := r.mv.keep b hb hn
      have hlt : b < w.heap.size := by have := r.mv.size; omega
      show (w.heap.push _)[b]? = _
      rw [Array.getElem?_push_lt hlt, ← h1, Array.getElem?_eq_getElem hlt]
    dom := r.mv.dom
    size := by have := r.mv.size; show w0.heap.size ≤ (w.heap.push _).size; simp; omega
    out := r.mv.out }
theorem Moves.push (hv : ∀ b o, h b = some o → w.heap[b]? = some o) (o : Obj) : Moves h w (h.set w.heap.size o) { w with heap := w.heap.push o } where
  view b o' hb := by
    show (w.heap.push o)[b]? = some o'
    simp only [Heap.set] at hb
    split at hb
    · rename_i hh; subst hh; simp only [Option.some.injEq] at hb; simp [hb]
    · have h1 := hv b o' hb
      have hlt := heap_lt h1
      rw [Array.getElem?_push_lt hlt]; rw [Array.getElem?_eq_getElem hlt] at h1; exact h1
  keep b hb _ := by
    show (w.heap.push o)[b]? = _
    rw [Array.getElem?_push_lt hb, Array.getElem?_eq_getElem hb]
  dom b hb := by
    simp only [Heap.set] at hb
    split at hb
    · exact .inr (by omega)
    · exact .inl hb
  size := by show w.heap.size ≤ (w.heap.push o).size; simp
  out := ⟨rfl, rfl, rfl⟩
theorem Moves.repl (hv : ∀ b o, h b = some o → w.heap[b]? = some o) {b : Nat} {o : Obj} (hb : h b = some o) (o' : Obj) {w' : World} (hw : w'.heap = w.heap.setIfInBounds b o') (ho : w'.os = w.os ∧ w'.tape = w.tape ∧ w'.output = w.output) : Moves h w (h.set b o') w' where
  view c x hc := by
    rw [hw, Array.getElem?_setIfInBounds]
    simp only [Heap.set] at hc
    have hlt := heap_lt (hv b o hb)
    split at hc
    · rename_i hh; subst hh; simp only [Option.some.injEq] at hc; simp [hlt, hc]
    · rename_i hh; rw [if_neg (fun h => hh h.symm)]; exact hv c x hc
  keep c hc hn := by
    rw [hw, Array.getElem?_setIfInBounds]
    rw [if_neg]
    intro hh; subst hh; rw [hb] at hn; cases hn
  dom c hc := by
    simp only [Heap.set] at hc
    split at hc
    · rename_i hh; subst hh; exact .inl (by simp [hb])
    · exact .inl hc
  size := by rw [hw]; simp
  out := ho
def Sound (D : List Deferred) (P : Program) (n : Nat) (h0 : Heap) (w0 : World) (o : Oper) (a : Act) (w : World) (e : Env) (K : Slot → Bx → Heap → Prop) (E : List PanicEntry → Heap → Prop) : Prop :=
  ∀ (next : Act → World → Prop) (Q : Exit → Act → World → Prop),
    (∀ s bx h' β' a' w', K s bx h' → Rel D n h0 w0 β' (e.put o.dst s bx) h' a' w' → next a' w') →
    (∀ c h' a' w', E c h' → Moves h0 w0 h' w' → a'.defers = D → Q (.panic c) a' w') → o.wp P a w next Q
variable {P : Program} {S : Sig} {o : Oper} {K : Slot → Bx → Heap → Prop} {E : List PanicEntry → Heap → Prop}
theorem sound_val (r : Rel D n h0 w0 β e h a w) (hd : ∀ d', o.dst = some d' → d' < n) {v : Value} {w' : World} (hr : (execOp a.eval o).run P w = .ok (.value v) w')
    {h' : Heap} (m : Moves h w h' w') {s : Slot} (hs : slotOk β e s v) (hK : K s none h') : Sound D P n h0 w0 o a w e K E := by
  intro next Q h1 h2
  unfold Oper.wp
  rw [hr]
  exact h1 s none h' β _ w' hK (r.put m o.dst hd hs)
theorem sound_skip (r : Rel D n h0 w0 β e h a w) (hd : ∀ d', o.dst = some d' → d' < n) {w' : World} (hr : (execOp a.eval o).run P w = .ok .skip w')
    {h' : Heap} (m : Moves h w h' w') (hK : K (.v undef) none h') : Sound D P n h0 w0 o a w e K E := by
  intro next Q h1 h2
  unfold Oper.wp
  rw [hr]
  exact h1 (.v undef) none h' β _ w' hK (r.put m o.dst hd rfl)
theorem sound_same (r : Rel D n h0 w0 β e h a w) (hd : ∀ d', o.dst = some d' → d' < n) {v : Value} (hr : (execOp a.eval o).run P w = .ok (.value v) w)
    {s : Slot} (hs : slotOk β e s v) (hK : K s none h) : Sound D P n h0 w0 o a w e K E :=
  sound_val r hd hr (Moves.refl r.mv.view) hs hK
theorem sound_pure (r : Rel D n h0 w0 β e h a w) (hd : ∀ d', o.dst = some d' → d' < n) {v : Value} (hr : (execOp a.eval o).run P w = .ok (.value v) w)
    (hK : K (.v v) none h) : Sound D P n h0 w0 o a w e K E :=
  sound_val r hd hr (Moves.refl r.mv.view) (s := .v v) rfl hK
theorem sound_box (r : Rel D n h0 w0 β e h a w) (hd : ∀ d', o.dst = some d' → d' < n) {d : Nat} (hdst : o.dst = some d) (hb : e.b d = none) {cs : List Value} {ty : TypeId} {v : Value}
    (hr : (execOp a.eval o).run P w = .ok (.value v) { w with heap := w.heap.push (.cells cs.toArray ty (0, 0)) }) {s : Slot}
    (hs : (s = .l d 0 ∧ v = .pointer (some ⟨w.heap.size, 0, none⟩)) ∨ (∃ k, s = .r d k ∧ v = .slice (some ⟨w.heap.size, 0, none⟩) k k)) (hK : K s (some (d, cs)) h) : Sound D P n h0 w0 o a w e K E := by
  intro next Q h1 h2
  unfold Oper.wp
  rw [hr]
  have := r.newBox d (hd d hdst) hb cs ty hs
  rw [← hdst] at this
  exact h1 s _ h _ _ _ hK this
theorem isLocal_eq {F : Fs} {d : Option Nat} {d' : Nat} (h : isLocal F d = some d') : d = some d' := by
  unfold isLocal at h
  split at h
  · split at h
    · simpa using h
    · cases h
  · cases h
theorem forceL_eq (l : List Value) (K : List Value → Prop) : forceL l K ↔ K l := by
  induction l generalizing K with
  | nil => exact Iff.rfl
  | cons a r ih => exact ih (fun r' => K (a :: r'))
theorem sound_newVar (r : Rel D n h0 w0 β e h a w) (hd : ∀ d', o.dst = some d' → d' < n) {F : Fs} {t : TypeId} {cs : List Value}
    (hr : (execOp a.eval o).run P w = .ok (.value (.pointer (some ⟨w.heap.size, 0, none⟩))) { w with heap := w.heap.push (.cells cs.toArray t) })
    (hx : newVar F t o.dst cs e h K) : Sound D P n h0 w0 o a w e K E := by
  unfold newVar at hx
  split at hx
  · rename_i d hl
    have hl := isLocal_eq hl
    split at hx
    · rename_i hb
      rw [forceL_eq] at hx
      exact sound_box r hd hl hb (ty := t) hr (.inl ⟨rfl, rfl⟩) hx
    · exact hx.elim
  · rw [New_def] at hx; unfold New_ at hx
    exact sound_val r hd hr (Moves.push r.mv.view _) (s := .v (.pointer (some ⟨w.heap.size, 0, none⟩))) rfl (hx _ r.fresh)
theorem sound_newRow (r : Rel D n h0 w0 β e h a w) (hd : ∀ d', o.dst = some d' → d' < n) {F : Fs} {t : TypeId} {cs : List Value} {k : Nat}
    (hr : (execOp a.eval o).run P w = .ok (.value (.slice (some ⟨w.heap.size, 0, none⟩) k k)) { w with heap := w.heap.push (.cells cs.toArray t) })
    (hx : newRow F t o.dst k cs e h K) : Sound D P n h0 w0 o a w e K E := by
  unfold newRow at hx
  split at hx
  · rename_i d hl
    have hl := isLocal_eq hl
    split at hx
    · rename_i hb
      rw [forceL_eq] at hx
      exact sound_box r hd hl hb (ty := t) hr (.inr ⟨k, rfl, rfl⟩) hx
    · exact hx.elim
  · rw [New_def] at hx; unfold New_ at hx
    exact sound_val r hd hr (Moves.push r.mv.view _) (s := .v (.slice (some ⟨w.heap.size, 0, none⟩) k k)) rfl (hx _ r.fresh)
theorem rd_cell (hv : ∀ b o, h b = some o → w.heap[b]? = some o) {b off : Nat} {v : Value} (hr : rd h b off = some v) : w.cell? ⟨b, off, none⟩ = some v := by
  unfold rd at hr
  split at hr
  · rename_i c t f hb
    simp [World.cell?, hv _ _ hb, hr]
  · cases hr
theorem add_off (b off i : Nat) : (⟨b, off, none⟩ : Addr).add i = ⟨b, off + i, none⟩ := by
  unfold Addr.add
  split
  · rename_i hh; simp [hh]
  · rfl
theorem run_loadCells (vs : List Value) : ∀ (b off i : Nat) (acc : Array Value), (∀ j v, vs[j]? = some v → w.cell? ⟨b, off + (i + j), none⟩ = some v) →
    (loadCellsFrom ⟨b, off, none⟩ i vs.length acc).run P w = .ok (acc ++ vs.toArray) w := by
  induction vs with
  | nil => intro b off i acc _; simp [loadCellsFrom]
  | cons v vs ih =>
    intro b off i acc hc
    have h1 := hc 0 v rfl
    simp only [List.length_cons, loadCellsFrom, Sem.run_bind, run_load, add_off]
    rw [show off + i = off + (i + 0) from rfl, h1]
    simp only [Result.andThen_ok]
    rw [ih b off (i + 1) (acc.push v) (fun j u hj => by have := hc (j + 1) u (by simpa using hj); rw [show i + 1 + j = i + (j + 1) by omega]; exact this)]
    simp
theorem rdn_spec {b : Nat} : ∀ (n off : Nat) (vs : List Value), rdn h b off n = some vs → vs.length = n ∧ ∀ j v, vs[j]? = some v → rd h b (off + j) = some v := by
  intro n
  induction n with
  | zero => intro off vs hr; simp [rdn] at hr; subst hr; simp
  | succ n ih =>
    intro off vs hr
    simp only [rdn] at hr
    split at hr
    · rename_i v r h1 h2
      simp only [Option.some.injEq] at hr
      subst hr
      obtain ⟨h3, h4⟩ := ih _ _ h2
      refine ⟨by simp [h3], fun j u hj => ?_⟩
      cases j with
      | zero => simp at hj; subst hj; exact h1
      | succ j => simp at hj; rw [show off + (j + 1) = off + 1 + j by omega]; exact h4 j u hj
    · cases hr
theorem take_spec : ∀ (n : Nat) (l vs : List Value), take n l = some vs → vs = l.take n ∧ n ≤ l.length
  | 0, l, vs, h => by simp [take] at h; simp [h]
  | n + 1, [], vs, h => by simp [take] at h
  | n + 1, a :: r, vs, h => by
    simp only [take] at h
    split at h
    · rename_i t ht
      simp only [Option.some.injEq] at h
      obtain ⟨h1, h2⟩ := take_spec n r t ht
      subst h
      simp [h1, h2]
    · cases h
theorem drop_eq : ∀ (n : Nat) (l : List Value), drop n l = l.drop n
  | 0, l => rfl
  | n + 1, [] => rfl
  | n + 1, _ :: r => by simp [drop, drop_eq n r]
theorem wrl_eq : ∀ (l : List Value) (i : Nat) (v : Value), wrl l i v = l.set i v
  | [], i, v => by simp [wrl]
  | a :: r, 0, v => rfl
  | a :: r, i + 1, v => by simp [wrl, wrl_eq r i v]
theorem wrls_length : ∀ (vs l : List Value) (off : Nat), (wrls l off vs).length = l.length
  | [], l, off => rfl
  | v :: r, l, off => by simp [wrls, wrls_length r, wrl_eq]
theorem box_cell (r : Rel D n h0 w0 β e h a w) {t : Nat} {cs : List Value} (hb : e.b t = some cs) {off : Nat} {v : Value} (hv : cs[off]? = some v) : w.cell? ⟨β t, off, none⟩ = some v := by
  obtain ⟨⟨ty, h1⟩, _, _⟩ := r.box t cs hb
  simp [World.cell?, h1, hv]
theorem rdBox_spec {t off k : Nat} {vs : List Value} (hr : rdBox e t off k = some vs) : ∃ cs, e.b t = some cs ∧ vs.length = k ∧ ∀ j v, vs[j]? = some v → cs[off + j]? = some v := by
  unfold rdBox at hr
  split at hr
  · rename_i cs hb
    obtain ⟨h1, h2⟩ := take_spec _ _ _ hr
    rw [drop_eq] at h1 h2
    refine ⟨cs, hb, by rw [h1]; simp at h2 ⊢; omega, fun j v hj => ?_⟩
    rw [h1] at hj
    have hjk : j < k := by
      have := (List.getElem?_eq_some_iff.1 hj).1
      simp at this; omega
    rw [List.getElem?_take_of_lt hjk, List.getElem?_drop] at hj
    exact hj
  · cases hr
theorem load_spec (hS : SigOk P S) (r : Rel D n h0 w0 β e h a w) {t : TypeId} {ti : TI} {x : Operand}
    (hti : S.ty.find t = some ti) (hx : load ti (e.get x) e h K) : ∃ ad v, a.eval x = .pointer (some ad) ∧ (loadVar t ad).run P w = .ok v w ∧ K (.v v) none h := by
  have hx0 := r.eval_ok x
  have key : ∀ (b off : Nat) (vs : List Value), a.eval x = .pointer (some ⟨b, off, none⟩) → vs.length = ti.size → (∀ j v, vs[j]? = some v → w.cell? ⟨b, off + j, none⟩ = some v) →
      (ti.agg = true → K (.v (.agg ⟨vs⟩)) none h) → (ti.agg = false → ∀ v, vs = [v] → K (.v v) none h) → (ti.agg = false → ∃ v, vs = [v]) → ∃ ad v, a.eval x = .pointer (some ad) ∧ (loadVar t ad).run P w = .ok v w ∧ K (.v v) none h := by
    intro b off vs he hlen hc h1 h2 h3
    have hl := run_loadCells (P := P) (w := w) vs b off 0 #[] (fun j v hj => by rw [Nat.zero_add]; exact hc j v hj)
    rw [hlen] at hl
    cases hag : ti.agg with
    | true =>
      refine ⟨_, .agg ⟨vs⟩, he, ?_, h1 hag⟩
      simp only [loadVar, Sem.run_bind, run_isAgg hS hti, Result.andThen_ok, hag, if_true, run_sizeOf hS hti, loadCells, hl]
      simp
    | false =>
      obtain ⟨v, rfl⟩ := h3 hag
      refine ⟨_, v, he, ?_, h2 hag v rfl⟩
      have := hc 0 v rfl
      simp only [Nat.add_zero] at this
      simp [loadVar, run_isAgg hS hti, hag, this]
  unfold load at hx
  split at hx
  · rename_i u off hu
    rw [hu] at hx0
    split at hx
    · rename_i vs hvs
      obtain ⟨cs, hb, hlen, hc⟩ := rdBox_spec hvs
      refine key (β u) off vs hx0.1 hlen (fun j v hj => box_cell r hb (hc j v hj)) (fun hag => ?_) (fun hag v hv => ?_) (fun hag => ?_)
      · simp only [hag] at hx; rwa [forceL_eq] at hx
      · simp only [hag, hv] at hx; exact hx
      · simp only [hag] at hx
        split at hx
        · exact ⟨_, rfl⟩
        · exact hx.elim
    · exact hx.elim
  · rename_i b off hu
    rw [hu] at hx0
    cases hag : ti.agg with
    | true =>
      simp only [hag] at hx
      rw [LdN_def] at hx; unfold LdN_ at hx
      obtain ⟨vs, hvs, hK⟩ := hx
      obtain ⟨hlen, hc⟩ := rdn_spec _ _ _ hvs
      exact key b off vs hx0 hlen (fun j v hj => rd_cell r.mv.view (hc j v hj)) (fun _ => hK) (fun h => by rw [hag] at h; cases h) (fun h => by rw [hag] at h; cases h)
    | false =>
      simp only [hag] at hx
      split at hx
      · rename_i hsz
        rw [Ld_def] at hx; unfold Ld_ at hx
        obtain ⟨v, hv, hK⟩ := hx
        refine key b off [v] hx0 (by simp [hsz]) (fun j u hj => ?_) (fun h => by rw [hag] at h; cases h) (fun _ u hu => by simp at hu; subst hu; exact hK) (fun _ => ⟨v, rfl⟩)
        cases j with
        | zero => simp at hj; subst hj; exact rd_cell r.mv.view hv
        | succ j => simp at hj
      · exact hx.elim
  · exact hx.elim
theorem sound_load (hS : SigOk P S) (r : Rel D n h0 w0 β e h a w) (hd : ∀ d', o.dst = some d' → d' < n) {t : TypeId} {ti : TI} {x : Operand} (ho : o.op = .load t x)
    (hti : S.ty.find t = some ti) (hx : load ti (e.get x) e h K) : Sound D P n h0 w0 o a w e K E := by
  obtain ⟨ad, v, h1, h2, h3⟩ := load_spec hS r hti hx
  exact sound_pure r hd (by simp [execOp, ho, h1, Instr.loadAt, Instr.sureAddr, h2]) h3
theorem isCell_one {v : Value} (hv : isCell v = true) : v.oneCell' = true := by cases v <;> simp_all [isCell, Value.oneCell']
theorem set_self {w : World} {b : Nat} {o : Obj} (hb : w.heap[b]? = some o) : w.heap.setIfInBounds b o = w.heap := by
  apply Array.ext_getElem?
  intro i
  rw [Array.getElem?_setIfInBounds]
  split
  · rename_i hh; subst hh; simp [heap_lt hb, (Array.getElem?_eq_some_iff.1 hb).2]
  · rfl
theorem setCell_heap {w : World} {b off : Nat} {cs : Array Value} {ty : TypeId} (hb : w.heap[b]? = some (.cells cs ty (0, 0))) (v : Value) :
    (w.setCell ⟨b, off, none⟩ v).heap = w.heap.setIfInBounds b (.cells (cs.setIfInBounds off v) ty (0, 0)) := by
  apply Array.ext_getElem?
  intro i
  simp only [World.setCell, Array.getElem?_modify, Array.getElem?_setIfInBounds]
  by_cases hi : b = i
  · subst hi; have hg := (Array.getElem?_eq_some_iff.1 hb).2; simp [heap_lt hb, hg]
  · simp [hi]
theorem run_storeCells (b : Nat) (ty : TypeId) : ∀ (vs : List Value) (off i : Nat) (w : World) (cs : Array Value), w.heap[b]? = some (.cells cs ty (0, 0)) → off + i + vs.length ≤ cs.size → cellsOk vs = true →
    ∃ w', (storeCells ⟨b, off, none⟩ vs i).run P w = .ok () w' ∧ w'.heap = w.heap.setIfInBounds b (.cells (wrls cs.toList (off + i) vs).toArray ty (0, 0)) ∧ w'.os = w.os ∧ w'.tape = w.tape ∧ w'.output = w.output := by
  intro vs
  induction vs with
  | nil =>
    intro off i w cs hb hl _
    refine ⟨w, by simp [storeCells], ?_, rfl, rfl, rfl⟩
    simp only [wrls]
    rw [show cs.toList.toArray = cs from rfl, set_self hb]
  | cons v vs ih =>
    intro off i w cs hb hl hok
    simp only [cellsOk] at hok
    split at hok
    · rename_i hv
      have hcell : w.cell? ⟨b, off + i, none⟩ = some (cs[off + i]'(by simp at hl; omega)) := by simp [World.cell?, hb]
      have hfz : w.frozen? ⟨b, off + i, none⟩ = false := by simp [World.frozen?, hb]
      have hset := setCell_heap (off := off + i) hb v
      have hb' : (w.setCell ⟨b, off + i, none⟩ v).heap[b]? = some (.cells (cs.setIfInBounds (off + i) v) ty (0, 0)) := by
        rw [hset]; simp [heap_lt hb]
      obtain ⟨w', h1, h2, h2o⟩ := ih off (i + 1) _ (cs.setIfInBounds (off + i) v) hb' (by simp at hl ⊢; omega) hok
      refine ⟨w', ?_, ?_, h2o⟩
      · simp only [storeCells, Sem.run_bind, add_off, run_store P w _ v .plain (isCell_one hv), hcell, hfz]
        simpa using h1
      · rw [h2, hset]
        simp only [wrls, wrl_eq, Array.toList_setIfInBounds]
        apply Array.ext_getElem?
        intro k
        simp only [Array.getElem?_setIfInBounds]
        by_cases hk : b = k
        · subst hk; simp [heap_lt hb]; rfl
        · simp [hk]
    · cases hok
theorem Rel.wrBox (r : Rel D n h0 w0 β e h a w) (d : Option Nat) (hd : ∀ d', d = some d' → d' < n) {t : Nat} {cs cs' : List Value} {ty : TypeId} (hb : e.b t = some cs)
    (hty : w.heap[β t]? = some (.cells cs.toArray ty (0, 0))) {w' : World} (hw : w'.heap = w.heap.setIfInBounds (β t) (.cells cs'.toArray ty (0, 0))) (ho : w'.os = w.os ∧ w'.tape = w.tape ∧ w'.output = w.output) :
    Rel D n h0 w0 β (e.put d (.v undef) (some (t, cs'))) h (a.put d undef) w' where
  size := by rw [put_size, r.size]
  nod := by rw [put_defers, r.nod]
  slot u := by
    rw [put_tmps a d undef u (by rw [r.size]; exact hd)]
    have aux : ∀ s v, slotOk β e s v → slotOk β (e.put d (.v undef) (some (t, cs'))) s v := by
      intro s v
      cases s with
      | v x => exact id
      | x => exact id
      | l k off => intro ⟨h1, h2⟩; refine ⟨h1, ?_⟩; simp only [Env.put]; split <;> simp_all
      | r k m => intro ⟨h1, h2⟩; refine ⟨h1, ?_⟩; simp only [Env.put]; split <;> simp_all
    cases d with
    | none => exact aux _ _ (r.slot u)
    | some d' =>
      by_cases hh : u = d'
      · simp only [hh, if_true, Env.put]; rfl
      · have := aux _ _ (r.slot u)
        simp only [hh, if_false, Env.put] at this ⊢
        exact this
  box u ds hu := by
    simp only [Env.put] at hu
    have hlt := heap_lt hty
    obtain ⟨_, h2, h3⟩ := r.box t cs hb
    by_cases hh : u = t
    · simp only [hh, if_true, Option.some.injEq] at hu
      subst hu; subst hh
      exact ⟨⟨ty, by rw [hw]; simp [hlt]⟩, h2, h3⟩
    · simp only [hh, if_false] at hu
      obtain ⟨⟨ty', h4⟩, h5, h6⟩ := r.box u ds hu
      refine ⟨⟨ty', ?_⟩, h5, h6⟩
      rw [hw, Array.getElem?_setIfInBounds, if_neg]
      · exact h4
      · intro hβ; exact hh (r.inj u t (by simp [hu]) (by simp [hb]) hβ.symm)
  inj u k hu hk hβ := by
    refine r.inj u k ?_ ?_ hβ
    · simp only [Env.put] at hu; split at hu <;> simp_all
    · simp only [Env.put] at hk; split at hk <;> simp_all
  mv := {
    view := fun b o hbo => by
      rw [hw, Array.getElem?_setIfInBounds, if_neg]
      · exact r.mv.view b o hbo
      · intro hβ; subst hβ; rw [(r.box t cs hb).2.1] at hbo; cases hbo
    keep := fun b hb' hn => by
      rw [hw, Array.getElem?_setIfInBounds, if_neg]
      · exact r.mv.keep b hb' hn
      · intro hβ; have := (r.box t cs hb).2.2; omega
    dom := r.mv.dom
    size := by rw [hw]; simp; exact r.mv.size
    out := ⟨ho.1.trans r.mv.out.1, ho.2.1.trans r.mv.out.2.1, ho.2.2.trans r.mv.out.2.2⟩ }
theorem cellsAt_spec {ti : TI} {v : Value} {Kc : List Value → Prop} (hx : cellsAt ti v Kc) : ∃ vs, Kc vs ∧ ((ti.agg = true ∧ v = .agg ⟨vs⟩ ∧ vs.length = ti.size) ∨ (ti.agg = false ∧ vs = [v] ∧ isCell v = true)) := by
  unfold cellsAt at hx
  split at hx
  · rename_i hag
    split at hx
    · rename_i cs
      rw [forceL_eq] at hx
      split at hx
      · rename_i hl
        exact ⟨cs.toList, hx, .inl ⟨hag, rfl, Nat.eq_of_beq_eq_true hl⟩⟩
      · exact hx.elim
    · exact hx.elim
  · rename_i hag
    split at hx
    · rename_i hv
      exact ⟨[v], hx, .inr ⟨hag, rfl, hv⟩⟩
    · exact hx.elim
theorem isCell_cells {v : Value} (hv : isCell v = true) : v.cells = #[v] := by cases v <;> simp_all [isCell, Value.cells]
theorem cells_of {ti : TI} {v : Value} {vs : List Value} (hsz : ti.agg = false → ti.size = 1)
    (hv : (ti.agg = true ∧ v = .agg ⟨vs⟩ ∧ vs.length = ti.size) ∨ (ti.agg = false ∧ vs = [v] ∧ isCell v = true)) : v.cells = ⟨vs⟩ ∧ vs.length = ti.size := by
  rcases hv with ⟨h1, h2, h3⟩ | ⟨h1, h2, h3⟩
  · exact ⟨by rw [h2]; rfl, h3⟩
  · subst h2
    exact ⟨isCell_cells h3, by simp [hsz h1]⟩
theorem sound_store (hS : SigOk P S) (r : Rel D n h0 w0 β e h a w) (hd : ∀ d', o.dst = some d' → d' < n) {t : TypeId} {ti : TI} {x y : Operand} {v : Value} (ho : o.op = .store t x y)
    (hti : S.ty.find t = some ti) (hy : e.get y = .v v) (hx : store ti (e.get x) v e h K) : Sound D P n h0 w0 o a w e K E := by
  have hx0 := r.eval_ok x
  have hsz := hS.one t ti hti
  unfold store at hx
  obtain ⟨vs, hx, hvs⟩ := cellsAt_spec hx
  split at hx
  · exact hx.elim
  rename_i hok
  obtain ⟨hcells, hlen⟩ := cells_of hsz hvs
  have hrun : ∀ b off w', a.eval x = .pointer (some ⟨b, off, none⟩) → (storeCells ⟨b, off, none⟩ vs).run P w = .ok () w' → (execOp a.eval o).run P w = .ok .skip w' := by
    intro b off w' he hs
    simp [execOp, ho, he, r.eval hy, Instr.storeAt, Instr.sureAddr, storeVar, run_sizeOf hS hti, hcells, hlen, hs]
  split at hx
  · rename_i u off hu
    rw [hu] at hx0
    split at hx
    · rename_i cs hb
      split at hx
      · rename_i hle
        have hle := Nat.le_of_ble_eq_true hle
        obtain ⟨⟨ty, h1⟩, h2, h3⟩ := r.box u cs hb
        obtain ⟨w', hw1, hw2, hwo⟩ := run_storeCells (P := P) (β u) ty vs off 0 w cs.toArray h1 (by simpa using hle) hok
        intro next Q hk hE
        unfold Oper.wp
        rw [hrun _ _ _ hx0.1 hw1]
        exact hk _ _ h β _ w' hx (r.wrBox o.dst hd hb h1 (by simpa using hw2) hwo)
      · exact hx.elim
    · exact hx.elim
  · rename_i b off hu
    rw [hu] at hx0
    rw [St_def] at hx; unfold St_ at hx
    obtain ⟨cs, ty, hb, hle, hK⟩ := hx
    obtain ⟨w', hw1, hw2, hwo⟩ := run_storeCells (P := P) b ty vs off 0 w cs (r.mv.view _ _ hb) (by simpa using hle) hok
    refine sound_skip r hd (hrun _ _ _ hx0 hw1) (Moves.repl r.mv.view hb _ (by simpa using hw2) hwo) hK
  · exact hx.elim
theorem sound_boxOp (hS : SigOk P S) (r : Rel D n h0 w0 β e h a w) (hd : ∀ d', o.dst = some d' → d' < n) {F : Fs} {t : TypeId} {ti : TI} {x : Operand} {v : Value} (ho : o.op = .box t x)
    (hti : S.ty.find t = some ti) (hv : e.get x = .v v) (hx : cellsAt ti v fun cs => newVar F t o.dst cs e h K) : Sound D P n h0 w0 o a w e K E := by
  obtain ⟨vs, hx, hvs⟩ := cellsAt_spec hx
  obtain ⟨hcells, hlen⟩ := cells_of (hS.one t ti hti) hvs
  refine sound_newVar r hd ?_ hx
  simp [execOp, ho, r.eval hv, Instr.box, Go.newVar, Go.newRow, hcells]
theorem sound_alloc (hS : SigOk P S) (r : Rel D n h0 w0 β e h a w) (hd : ∀ d', o.dst = some d' → d' < n) {F : Fs} {t : TypeId} {ti : TI} (ho : o.op = .alloc t)
    (hti : S.ty.find t = some ti) (hx : newVar F t o.dst ti.zero e h K) : Sound D P n h0 w0 o a w e K E := by
  refine sound_newVar r hd ?_ hx
  obtain ⟨z, hz, hc⟩ := run_zero hS hti w
  have : z.cells = ti.zero.toArray := by rw [← hc]
  simp [execOp, ho, Instr.alloc, Go.newVar, Go.newRow, hz, this]
theorem foldl_wrls : ∀ (vs : List Value) (off k : Nat) (cs : Array Value),
    ((vs.zipIdx k).foldl (fun cs (c, j) => cs.setIfInBounds (off + j) c) cs).toList = wrls cs.toList (off + k) vs
  | [], off, k, cs => rfl
  | v :: vs, off, k, cs => by
    simp only [List.zipIdx_cons, List.foldl_cons, wrls, wrl_eq]
    rw [foldl_wrls vs off (k + 1) (cs.setIfInBounds (off + k) v)]
    simp [Nat.add_assoc]
theorem fill_spec (pl : Nat → Option Nat) (place : Nat → Option (Nat × Nat)) : ∀ (ps : List (Nat × Value)) (qs : List (Nat × List Value)) (cs : Array Value) (out : List Value),
    fillAt pl cs.toList qs = some out → ps.length = qs.length →
    (∀ i (hi : i < ps.length) (hj : i < qs.length), qs[i].1 = ps[i].1 ∧ (ps[i].2).cells = ⟨qs[i].2⟩ ∧ ∀ off, pl ps[i].1 = some off → place ps[i].1 = some (off, qs[i].2.length)) →
    Instr.fill place cs ps = some out.toArray
  | [], [], cs, out, h, _, _ => by simp [fillAt] at h; simp [Instr.fill, ← h]
  | [], _ :: _, _, _, _, h, _ => by simp at h
  | _ :: _, [], _, _, _, h, _ => by simp at h
  | (i, v) :: ps, (j, vs) :: qs, cs, out, h, hl, hall => by
    have h0 := hall 0 (by simp) (by simp)
    simp only [List.getElem_cons_zero] at h0
    obtain ⟨hij, hc, hp⟩ := h0
    subst hij
    simp only [fillAt] at h
    split at h
    · rename_i off ho
      split at h
      · rename_i hle
        have hle := Nat.le_of_ble_eq_true hle
        simp only [Instr.fill, hp off ho, hc]
        have hf := foldl_wrls vs off 0 cs
        have hsz : ¬ (vs.length ≠ vs.length || decide (off + vs.length > cs.size)) = true := by simp at hle ⊢; omega
        simp only [List.size_toArray]
        rw [if_neg (by simpa using hle)]
        refine fill_spec pl place ps qs _ out ?_ (by simpa using hl) (fun k hk hk' => ?_)
        · rw [← h]
          congr 1
          rw [← Nat.add_zero off, ← hf]
          simp [Array.foldl_toList]
        · have := hall (k + 1) (by simpa using hk) (by simpa using hk')
          simpa using this
      · cases h
    · cases h
theorem parts_spec {tyOf : Nat → Option TI} : ∀ (ps : List (Nat × Operand)) (Kp : List (Nat × List Value) → Prop), parts e tyOf ps Kp →
    ∃ qs, Kp qs ∧ qs.length = ps.length ∧ ∀ i (hi : i < ps.length) (hj : i < qs.length), qs[i].1 = ps[i].1 ∧ ∃ v ti, e.get ps[i].2 = .v v ∧ tyOf ps[i].1 = some ti ∧
      ((ti.agg = true ∧ v = .agg ⟨qs[i].2⟩ ∧ qs[i].2.length = ti.size) ∨ (ti.agg = false ∧ qs[i].2 = [v] ∧ isCell v = true))
  | [], Kp, h => ⟨[], h, rfl, fun i hi => by simp at hi⟩
  | (k, x) :: ps, Kp, h => by
    simp only [parts] at h
    split at h
    · rename_i v ti hv hti
      obtain ⟨vs, h, hvs⟩ := cellsAt_spec h
      obtain ⟨qs, h1, h2, h3⟩ := parts_spec ps _ h
      refine ⟨(k, vs) :: qs, h1, by simp [h2], fun i hi hj => ?_⟩
      cases i with
      | zero => exact ⟨rfl, v, ti, hv, hti, hvs⟩
      | succ i => exact h3 i (by simpa using hi) (by simpa using hj)
    · exact h.elim
theorem reps_eq (z : List Value) : ∀ n, reps n z = (List.replicate n z).flatten
  | 0 => rfl
  | n + 1 => by simp [reps, List.replicate_succ, reps_eq z n]
theorem flat_get (z : List Value) (hz : 0 < z.length) : ∀ (n i : Nat), i < n * z.length → ((List.replicate n z).flatten)[i]? = z[i % z.length]?
  | 0, i, h => by simp at h
  | n + 1, i, h => by
    rw [List.replicate_succ, List.flatten_cons]
    by_cases hi : i < z.length
    · rw [List.getElem?_append_left hi, Nat.mod_eq_of_lt hi]
    · rw [List.getElem?_append_right (by omega), flat_get z hz n (i - z.length) (by rw [Nat.succ_mul] at h; omega)]
      congr 1
      rw [← Nat.mod_eq_sub_mod (by omega)]
theorem flat_len (z : List Value) (n : Nat) : ((List.replicate n z).flatten).length = n * z.length := by simp
theorem zeros_eq (z : Array Value) (n : Nat) : (Array.range (n * z.size)).map (fun i => z[i % z.size]!) = ((List.replicate n z.toList).flatten).toArray := by
  by_cases hz : 0 < z.size
  · apply Array.ext_getElem?
    intro i
    by_cases hi : i < n * z.size
    · simp only [Array.getElem?_map, List.getElem?_toArray]
      rw [flat_get z.toList (by simpa using hz) n i (by simpa using hi)]
      have hm : i % z.size < z.size := Nat.mod_lt _ hz
      simp [hi, hm]
    · rw [Array.getElem?_eq_none (by simp; omega), List.getElem?_toArray, List.getElem?_eq_none (by simp; omega)]
  · have h0 : z.size = 0 := by omega
    have h1 : z.toList = [] := by simpa using h0
    simp [h0, h1]
theorem mapM_places (hS : SigOk P S) : ∀ (fs : List Field), (∀ f ∈ fs, (S.ty.find f.type).isSome) →
    ∃ l : List (Nat × Nat), (∀ w : World, (fs.mapM (fun (f : Field) => (do pure (f.offset, ← Go.sizeOf f.type) : Sem (Nat × Nat)))).run P w = .ok l w) ∧ l.length = fs.length ∧
      ∀ i (hi : i < fs.length) ti, S.ty.find (fs[i]).type = some ti → l[i]? = some ((fs[i]).offset, ti.size)
  | [], _ => ⟨[], fun w => by simp, rfl, fun i hi => by simp at hi⟩
  | f :: fs, hall => by
    obtain ⟨l, h1, h2, h3⟩ := mapM_places hS fs (fun g hg => hall g (by simp [hg]))
    obtain ⟨ti, hti⟩ := Option.isSome_iff_exists.1 (hall f (by simp))
    refine ⟨(f.offset, ti.size) :: l, fun w => ?_, by simp [h2], fun i hi tj hj => ?_⟩
    · rw [List.mapM_cons]
      simp only [Sem.run_bind, run_sizeOf hS hti, Result.andThen_ok, Sem.run_pure, h1]
    · cases i with
      | zero => simp only [List.getElem_cons_zero] at hj ⊢; rw [hti] at hj; simp only [Option.some.injEq] at hj; subst hj; rfl
      | succ i => simp only [List.getElem_cons_succ, List.getElem?_cons_succ] at hj ⊢; exact h3 i (by simpa using hi) tj hj
theorem sound_build (hS : SigOk P S) (r : Rel D n h0 w0 β e h a w) (hd : ∀ d', o.dst = some d' → d' < n) {t : TypeId} {ps : Array (Nat × Operand)} (ho : o.op = .build t ps)
    (hx : bld S t ps.toList e fun v => K (.v v) none h) : Sound D P n h0 w0 o a w e K E := by
  unfold bld at hx
  split at hx
  · rename_i ti hti
    split at hx
    · exact hx.elim
    rename_i pl tyOf hpl
    obtain ⟨qs, hx, hlen, hqs⟩ := parts_spec _ _ hx
    split at hx
    · rename_i cs hcs
      rw [forceL_eq] at hx
      obtain ⟨z, hz, hzc⟩ := run_zero hS hti w
      obtain ⟨d, hdd, hag, htd⟩ := run_under hS hti w
      refine sound_same r hd (v := .agg ⟨cs⟩) ?_ (s := .v (.agg ⟨cs⟩)) rfl hx
      have hfill : ∀ place : Nat → Option (Nat × Nat), (∀ i ti', tyOf i = some ti' → ∀ off, pl i = some off → place i = some (off, ti'.size)) →
          Instr.fill place z.cells (ps.map fun (i, x) => (i, a.eval x)).toList = some cs.toArray := by
        intro place hp
        refine fill_spec pl place _ qs z.cells cs (by rw [hzc]; exact hcs) (by simp [hlen]) (fun i hi hj => ?_)
        have hi' : i < ps.toList.length := by simpa using hi
        obtain ⟨h1, v, ti', h2, h3, h4⟩ := hqs i hi' hj
        have hti' : ti'.agg = false → ti'.size = 1 := by
          unfold places at hpl
          split at hpl
          · simp only [Option.some.injEq, Prod.mk.injEq] at hpl
            rw [← hpl.2] at h3
            simp only at h3
            split at h3
            · exact hS.one _ _ h3
            · cases h3
          · simp only [Option.some.injEq, Prod.mk.injEq] at hpl
            rw [← hpl.2] at h3
            exact hS.one _ _ h3
          · cases hpl
        obtain ⟨h5, h6⟩ := cells_of hti' h4
        simp only [Array.toList_map, List.getElem_map]
        refine ⟨h1, ?_, fun off ho => ?_⟩
        · rw [r.eval h2]; exact h5
        · rw [h6]; exact hp _ _ h3 off ho
      unfold places at hpl
      have hrun : (execOp a.eval o).run P w = ((Instr.build t (ps.map fun (i, x) => (i, a.eval x))).run P w).andThen (fun v w' => .ok (.value v) w') := by
        simp [execOp, ho]
      rw [hrun]
      split at hpl
      · rename_i fs hfs
        simp only [Option.some.injEq, Prod.mk.injEq] at hpl
        cases d <;> simp only [tdOf, hfs] at htd <;> try cases htd
        rename_i fields
        obtain ⟨l, hl1, hl2, hl3⟩ := mapM_places hS fields.toList (fun f hf => by
          obtain ⟨tj, htj, _⟩ := hS.flds t ti _ hti hfs (f.offset, f.type) (List.mem_map.2 ⟨f, hf, rfl⟩)
          simp only at htj
          simp [htj])
        have := hfill (fun i => l.toArray[i]?) (fun i ti' h3 off h4 => by
          rw [← hpl.2] at h3; rw [← hpl.1] at h4
          simp only [List.getElem?_map] at h3 h4
          by_cases hi : i < fields.toList.length
          · rw [List.getElem?_eq_getElem hi] at h3 h4
            simp only [Option.map_some, Option.some.injEq] at h3 h4
            rw [List.getElem?_toArray, hl3 i hi ti' h3, h4]
          · rw [List.getElem?_eq_none (by omega)] at h3; cases h3)
        simp only [Instr.build, Sem.run_bind, hz, hdd, Result.andThen_ok]
        have hm : ∀ w, (fields.mapM (fun (f : Field) => (do pure (f.offset, ← Go.sizeOf f.type) : Sem (Nat × Nat)))).run P w = .ok l.toArray w := by
          intro w
          rw [Array.mapM_eq_mapM_toList, Sem.run_map, hl1 w]
          rfl
        rw [hm]
        simp only [Result.andThen_ok, this, Sem.run_pure]
      · rename_i k el hfs
        simp only [Option.some.injEq, Prod.mk.injEq] at hpl
        cases d <;> simp only [tdOf, hfs] at htd <;> try cases htd
        obtain ⟨te, hte⟩ := Option.isSome_iff_exists.1 (hS.elems t ti _ _ hti hfs)
        have := hfill (fun i => some (i * te.size, te.size)) (fun i ti' h3 off h4 => by
          rw [← hpl.2] at h3; rw [← hpl.1] at h4
          simp only [hte, Option.some.injEq] at h3 h4
          subst h3
          split at h4
          · simp only [Option.some.injEq] at h4; rw [h4]
          · cases h4)
        simp only [Instr.build, Sem.run_bind, hz, hdd, Result.andThen_ok, run_sizeOf hS hte, this, Sem.run_pure]
      · cases hpl
    · exact hx.elim
  · exact hx.elim
theorem sound_buildSlice (hS : SigOk P S) (r : Rel D n h0 w0 β e h a w) (hd : ∀ d', o.dst = some d' → d' < n) {F : Fs} {t el : TypeId} {k : Nat} {ti te : TI} {ps : Array (Nat × Operand)} (ho : o.op = .buildSlice t k ps)
    (hti : S.ty.find t = some ti) (htd : ti.d = .sl el) (hte : S.ty.find el = some te) (hle : k * te.size ≤ 16777216)
    (hx : parts e (fun _ => some te) ps.toList fun vs => match fillAt (fun i => some (i * te.size)) (reps k te.zero) vs with
          | some cs => newRow F el o.dst k cs e h K
          | none => False) : Sound D P n h0 w0 o a w e K E := by
  obtain ⟨qs, hx, hlen, hqs⟩ := parts_spec _ _ hx
  split at hx
  · rename_i cs hcs
    refine sound_newRow r hd ?_ hx
    obtain ⟨d, hdd, hag, htd'⟩ := run_under hS hti w
    rw [htd] at htd'
    cases d <;> simp only [tdOf] at htd' <;> try cases htd'
    obtain ⟨z, hz, hzc⟩ := run_zero hS hte w
    have hzs : z.cells.size = te.size := by rw [← hS.zero _ _ hte, ← hzc]; simp
    have hfill : Instr.fill (fun i => some (i * te.size, te.size)) ((List.replicate k te.zero).flatten).toArray (ps.map fun (i, x) => (i, a.eval x)).toList = some cs.toArray := by
      refine fill_spec (fun i => some (i * te.size)) _ _ qs _ cs (by rw [← reps_eq]; exact hcs) (by simp [hlen]) (fun i hi hj => ?_)
      have hi' : i < ps.toList.length := by simpa using hi
      obtain ⟨h1, v, ti', h2, h3, h4⟩ := hqs i hi' hj
      simp only [Option.some.injEq] at h3
      subst h3
      obtain ⟨h5, h6⟩ := cells_of (hS.one _ _ hte) h4
      simp only [Array.toList_map, List.getElem_map]
      refine ⟨h1, ?_, fun off ho => ?_⟩
      · rw [r.eval h2]; exact h5
      · simp only [Option.some.injEq] at ho; rw [h6, ho]
    have hrun : (execOp a.eval o).run P w = ((Instr.buildSlice t k (ps.map fun (i, x) => (i, a.eval x))).run P w).andThen (fun v w' => .ok (.value v) w') := by
      simp [execOp, ho]
    rw [hrun]
    simp only [Instr.buildSlice, Sem.run_bind, hdd, Result.andThen_ok, run_sizeOf hS hte]
    rw [if_neg (by simp; omega)]
    by_cases h0 : k * te.size = 0
    · rw [if_pos h0]
      have hnil : (List.replicate k te.zero).flatten = [] := by
        apply List.eq_nil_of_length_eq_zero; rw [flat_len, hS.zero _ _ hte]; exact h0
      rw [hnil] at hfill
      simp only [h0, Sem.run_bind, Sem.run_pure, Result.andThen_ok]
      simp only [show Array.range 0 = #[] from rfl, Array.map_empty]
      rw [hfill]
      simp [Go.newRow]
    · rw [if_neg h0]
      have hzz := zeros_eq z.cells k
      rw [hzs, hzc] at hzz
      simp only [Sem.run_bind, hz, Result.andThen_ok, Sem.run_pure, hzs, hzz, hfill]
      simp [Go.newRow]
  · exact hx.elim
theorem sound_makeSlice (hS : SigOk P S) (r : Rel D n h0 w0 β e h a w) (hd : ∀ d', o.dst = some d' → d' < n) {t el : TypeId} {ti te : TI} {x y : Operand} {k c : Int} (ho : o.op = .makeSlice t x y)
    (hti : S.ty.find t = some ti) (htd : ti.d = .sl el) (hte : S.ty.find el = some te) (hxv : e.get x = .v (.int .i64 k)) (hyv : e.get y = .v (.int .i64 c))
    (hx : Ob (k = c ∧ 0 ≤ k ∧ k * te.bytes ≤ 2 ^ 44 ∧ k ≤ 2 ^ 44) (New h (List.replicate k.toNat te.zero).flatten el fun b h' => K (.v (.slice (some ⟨b, 0, none⟩) k.toNat k.toNat)) none h')) : Sound D P n h0 w0 o a w e K E := by
  rw [Ob_def] at hx; unfold Ob_ at hx; rw [New_def] at hx; unfold New_ at hx
  obtain ⟨⟨rfl, hk0, hkb, hk44⟩, hx⟩ := hx
  refine sound_val r hd (v := .slice (some ⟨w.heap.size, 0, none⟩) k.toNat k.toNat) (w' := { w with heap := w.heap.push (.cells ((List.replicate k.toNat te.zero).flatten).toArray el) }) ?_ (Moves.push r.mv.view _) (s := .v (.slice (some ⟨w.heap.size, 0, none⟩) k.toNat k.toNat)) rfl (hx _ r.fresh)
  obtain ⟨d, hdd, hag, htd'⟩ := run_under hS hti w
  rw [htd] at htd'
  cases d <;> simp only [tdOf] at htd' <;> try cases htd'
  obtain ⟨z, hz, hzc⟩ := run_zero hS hte w
  obtain ⟨i, hi, hib, his⟩ := run_bytes hS hte w
  have hzs : z.cells.size = te.size := by rw [← hS.zero _ _ hte, ← hzc]; simp
  have hwrap : IntKind.i64.wrap k = k := by simp [IntKind.wrap, IntKind.bits, IntKind.signed]; omega
  have hrun : (execOp a.eval o).run P w = ((Instr.makeSlice t (.int .i64 k) (.int .i64 k)).run P w).andThen (fun v w' => .ok (.value v) w') := by
    simp [execOp, ho, r.eval hxv, r.eval hyv]
  rw [hrun]
  have hlarge : ¬ ((i.bytes : Int) * k > 2 ^ 48) := by rw [hib, Int.mul_comm]; omega
  simp only [Instr.makeSlice, Sem.run_bind, hdd, Result.andThen_ok, asInt, asIntOf, Sem.run_pure, hi, hwrap]
  rw [if_neg (by simp at hlarge ⊢; omega)]
  simp only [Sem.run_bind, run_askRoom, Result.andThen_ok, run_sizeOf hS hte]
  by_cases hz0 : k.toNat * te.size = 0
  · rw [if_pos hz0]
    have hnil : (List.replicate k.toNat te.zero).flatten = [] := by
      apply List.eq_nil_of_length_eq_zero; rw [flat_len, hS.zero _ _ hte]; exact hz0
    simp [hz0, hnil, Go.newRow, show Array.range 0 = #[] from rfl]
  · rw [if_neg hz0]
    have hzz := zeros_eq z.cells k.toNat
    rw [hzs, hzc] at hzz
    simp only [Sem.run_bind, hz, Result.andThen_ok, Sem.run_pure, hzs, hzz]
    simp [Go.newRow]
theorem ob_iff {p q : Prop} : Ob p q ↔ p ∧ q := by rw [Ob_def]; unfold Ob_; exact Iff.rfl
theorem add_zero' (a : Addr) : a.add 0 = a := by simp [Addr.add]
theorem map_add_zero (a : Option Addr) (k : Nat) : a.map (fun a => a.add (0 * k)) = a := by cases a <;> simp [add_zero']
theorem sliceOf_spec {size : Nat} {p : Option Addr} {m cap : Nat} {lo hi : Option Operand} {Kc : Value → Prop} (r : Rel D n h0 w0 β e h a w)
    (hx : sliceOf size p m cap (optGet e lo) (optGet e hi) Kc) :
    ∃ l hh : Nat, (∀ w : World, (Instr.sliceBounds true m cap (lo.map a.eval) (hi.map a.eval) none).run P w = .ok (l, hh, cap) w) ∧
      Kc (.slice (if cap = l then p else p.map (·.add (l * size))) (hh - l) (cap - l)) := by
  have hgo : ∀ H : Nat, sliceLo size p cap (optGet e lo) H Kc → ∃ l : Nat, (∀ w : World, (match lo.map a.eval with
      | some v => Instr.sliceBound v H .sliceB
      | none => pure 0).run P w = .ok l w) ∧ Kc (.slice (if cap = l then p else p.map (·.add (l * size))) (H - l) (cap - l)) := by
    intro H hx
    unfold sliceLo at hx
    cases lo with
    | none =>
      simp only [optGet] at hx
      refine ⟨0, fun w => by simp, ?_⟩
      rw [map_add_zero]
      simpa using hx
    | some x =>
      simp only [optGet] at hx
      split at hx
      · rename_i hh; cases hh
      · rename_i k l hl
        simp only [Option.some.injEq] at hl
        obtain ⟨hb, hx⟩ := ob_iff.1 hx
        rw [Sub_def] at hx; unfold Sub_ at hx
        refine ⟨l.toNat, fun w => ?_, ?_⟩
        · simp only [Option.map_some, r.eval hl, Instr.sliceBound, asIntOf, Sem.run_bind, Sem.run_pure, Result.andThen_ok, if_pos hb]
        · refine hx _ (fun hne => by rw [if_neg hne]) (fun he => by rw [if_pos he])
      · exact hx.elim
  unfold sliceOf at hx
  cases hi with
  | none =>
    simp only [optGet] at hx
    obtain ⟨l, h1, h2⟩ := hgo m hx
    refine ⟨l, m, fun w => ?_, h2⟩
    have := h1 w
    cases lo <;> simp_all [Instr.sliceBounds]
  | some y =>
    simp only [optGet] at hx
    split at hx
    · rename_i hh; cases hh
    · rename_i k x hy
      simp only [Option.some.injEq] at hy
      obtain ⟨hb, hx⟩ := ob_iff.1 hx
      obtain ⟨l, h1, h2⟩ := hgo x.toNat hx
      clear hx hgo
      refine ⟨l, x.toNat, fun w => ?_, h2⟩
      have := h1 w
      cases lo with
      | none =>
        simp only [Option.map_none, Sem.run_pure] at this
        simp only [Instr.sliceBounds, Option.map_some, Option.map_none, r.eval hy, Instr.sliceBound, asIntOf, Sem.run_bind, Sem.run_pure, Result.andThen_ok, if_true, if_pos hb]
        injection this with h3 _
        rw [h3]
      | some z =>
        simp only [Option.map_some] at this
        have hhi : (Instr.sliceBound (.int k x) cap .sliceAcap).run P w = .ok x.toNat w := by
          simp only [Instr.sliceBound, asIntOf, Sem.run_bind, Sem.run_pure, Result.andThen_ok, if_pos hb]
        simp only [Instr.sliceBounds, Option.map_some, r.eval hy, Option.isSome_none, Bool.false_eq_true, if_false, if_true, Sem.run_bind, Sem.run_pure, Result.andThen_ok, hhi, this]
    · exact hx.elim
theorem sound_slice (hS : SigOk P S) (r : Rel D n h0 w0 β e h a w) (hd : ∀ d', o.dst = some d' → d' < n) {t el : TypeId} {ti te : TI} {x : Operand} {lo hi : Option Operand} {p : Option Addr} {m cap : Nat} (ho : o.op = .slice t x lo hi none)
    (hti : S.ty.find t = some ti) (htd : ti.d = .sl el) (hte : S.ty.find el = some te) (hxv : e.get x = .v (.slice p m cap))
    (hx : sliceOf te.size p m cap (optGet e lo) (optGet e hi) fun v => K (.v v) none h) : Sound D P n h0 w0 o a w e K E := by
  obtain ⟨l, hh, h1, h2⟩ := sliceOf_spec (P := P) r hx
  refine sound_pure r hd ?_ h2
  obtain ⟨d, hdd, hag, htd'⟩ := run_under hS hti w
  rw [htd] at htd'
  cases d <;> simp only [tdOf] at htd' <;> try cases htd'
  simp only [execOp, ho, Instr.sliceAt, Instr.slice, Sem.run_bind, hdd, Result.andThen_ok, r.eval hxv, Option.map_none, h1, run_sizeOf hS hte, Sem.run_pure]
theorem sound_fieldAddr (hS : SigOk P S) (r : Rel D n h0 w0 β e h a w) (hd : ∀ d', o.dst = some d' → d' < n) {t : TypeId} {ti : TI} {fs : List (Nat × TypeId)} {i k : Nat} {u : TypeId} {x : Operand} (ho : o.op = .fieldAddr t x i)
    (hti : S.ty.find t = some ti) (htd : ti.d = .str fs) (hf : fs[i]? = some (k, u))
    (hx : match e.get x with
        | .l u off => K (.l u (off + k)) none h
        | .v (.pointer (some ⟨b, off, none⟩)) => K (.v (.pointer (some ⟨b, off + k, none⟩))) none h
        | _ => False) : Sound D P n h0 w0 o a w e K E := by
  obtain ⟨d, hdd, hag, htd'⟩ := run_under hS hti w
  rw [htd] at htd'
  cases d <;> simp only [tdOf] at htd' <;> try cases htd'
  rename_i fields
  have hx0 := r.eval_ok x
  rw [List.getElem?_map, Array.getElem?_toList] at hf
  cases hfi : fields[i]? with
  | none => rw [hfi] at hf; cases hf
  | some f =>
    rw [hfi] at hf
    simp only [Option.map_some, Option.some.injEq, Prod.mk.injEq] at hf
    obtain ⟨tj, htj, hsz⟩ := hS.flds t ti _ hti htd (f.offset, f.type) (List.mem_map.2 ⟨f, Array.mem_toList_iff.2 (Array.mem_of_getElem? hfi), rfl⟩)
    have hrun : ∀ b off, a.eval x = .pointer (some ⟨b, off, none⟩) → (execOp a.eval o).run P w = .ok (.value (.pointer (some ⟨b, off + k, none⟩))) w := by
      intro b off he
      simp [execOp, ho, he, Instr.fieldAt, hdd, hfi, Instr.sureAddr, fieldPlace, run_sizeOf hS htj, hsz, add_off, hf.1]
    split at hx
    · rename_i v off hv
      rw [hv] at hx0
      exact sound_same r hd (hrun _ _ hx0.1) (s := .l v (off + k)) ⟨rfl, hx0.2⟩ hx
    · rename_i b off hv
      rw [hv] at hx0
      exact sound_same r hd (hrun _ _ hx0) (s := .v _) rfl hx
    · exact hx.elim
theorem takeDrop_spec {k m : Nat} {l vs : List Value} (hv : take k (drop m l) = some vs) : vs.length = k ∧ ∀ j v, vs[j]? = some v → l[m + j]? = some v := by
  obtain ⟨h1, h2⟩ := take_spec _ _ _ hv
  rw [drop_eq] at h1 h2
  refine ⟨by rw [h1]; simp at h2 ⊢; omega, fun j v hj => ?_⟩
  rw [h1] at hj
  have hjk : j < k := by
    have := (List.getElem?_eq_some_iff.1 hj).1
    simp at this; omega
  rw [List.getElem?_take_of_lt hjk, List.getElem?_drop] at hj
  exact hj
theorem extract_eq {k m : Nat} {cs : Array Value} {vs : List Value} (hv : take k (drop m cs.toList) = some vs) : cs.extract m (m + k) = ⟨vs⟩ := by
  obtain ⟨h1, h2⟩ := take_spec _ _ _ hv
  rw [drop_eq] at h1 h2
  apply Array.ext'
  rw [h1]
  simp [List.extract_eq_take_drop]
theorem sound_field (hS : SigOk P S) (r : Rel D n h0 w0 β e h a w) (hd : ∀ d', o.dst = some d' → d' < n) {t u : TypeId} {ti tu : TI} {fs : List (Nat × TypeId)} {i k : Nat} {x : Operand} {cs : Array Value} {vs : List Value} (ho : o.op = .field t x i)
    (hti : S.ty.find t = some ti) (htd : ti.d = .str fs) (hf : fs[i]? = some (k, u)) (hxv : e.get x = .v (.agg cs)) (htu : S.ty.find u = some tu)
    (hx : match tu.agg with
            | true => forceL vs fun vs => K (.v (.agg ⟨vs⟩)) none h
            | false => match vs with
              | [v] => K (.v v) none h
              | _ => False) (hvs : take tu.size (drop k cs.toList) = some vs) : Sound D P n h0 w0 o a w e K E := by
  obtain ⟨d, hdd, hag, htd'⟩ := run_under hS hti w
  rw [htd] at htd'
  cases d <;> simp only [tdOf] at htd' <;> try cases htd'
  rename_i fields
  rw [List.getElem?_map, Array.getElem?_toList] at hf
  cases hfi : fields[i]? with
  | none => rw [hfi] at hf; cases hf
  | some f =>
    rw [hfi] at hf
    simp only [Option.map_some, Option.some.injEq, Prod.mk.injEq] at hf
    obtain ⟨hf1, hf2⟩ := hf
    rw [← hf2] at htu
    have hrun : (execOp a.eval o).run P w = ((part f.type cs k).run P w).andThen (fun v w' => .ok (.value v) w') := by
      simp [execOp, ho, r.eval hxv, Instr.field, hdd, hfi, asAgg, hf1]
    cases hagg : tu.agg with
    | true =>
      simp only [hagg] at hx
      rw [forceL_eq] at hx
      refine sound_pure r hd ?_ hx
      rw [hrun]
      simp only [part, Sem.run_bind, run_isAgg hS htu, hagg, Result.andThen_ok, if_true, run_sizeOf hS htu, Sem.run_pure, extract_eq hvs]
    | false =>
      simp only [hagg] at hx
      rcases vs with _ | ⟨v, _ | _⟩
      · exact hx.elim
      · refine sound_pure r hd ?_ hx
        obtain ⟨_, hc⟩ := takeDrop_spec hvs
        have := hc 0 v rfl
        rw [hrun]
        have hk : cs[k]? = some v := by simpa using this
        simp [part, run_isAgg hS htu, hagg, hk]
      · exact hx.elim
theorem sound_indexAddr (hS : SigOk P S) (r : Rel D n h0 w0 β e h a w) (hd : ∀ d', o.dst = some d' → d' < n) {t : TypeId} {x y : Operand} {kk : IntKind} {i : Int} (ho : o.op = .indexAddr t x y)
    (hy : e.get y = .v (.int kk i))
    (hx : match S.ty.find t with
      | some ⟨_, _, _, _, .sl el⟩ => match S.ty.find el, e.get x with
        | some ti, .v (.slice p n _) => Ob (0 ≤ i ∧ i < n) (Ptr p fun b off => K (.v (.pointer (some ⟨b, off + i.toNat * ti.size, none⟩))) none h)
        | some ti, .r u n => Ob (0 ≤ i ∧ i < n) (K (.l u (i.toNat * ti.size)) none h)
        | _, _ => False
      | some ⟨_, _, _, _, .arr n el⟩ => match S.ty.find el, e.get x with
        | some ti, .v (.pointer (some ⟨b, off, none⟩)) => Ob (0 ≤ i ∧ i < n) (K (.v (.pointer (some ⟨b, off + i.toNat * ti.size, none⟩))) none h)
        | some ti, .l u off => Ob (0 ≤ i ∧ i < n) (K (.l u (off + i.toNat * ti.size)) none h)
        | _, _ => False
      | _ => False) : Sound D P n h0 w0 o a w e K E := by
  have hx0 := r.eval_ok x
  have hye := r.eval hy
  split at hx
  · rename_i el hti
    obtain ⟨d, hdd, hag, htd'⟩ := run_under hS hti w
    cases d <;> simp only [tdOf] at htd' <;> try cases htd'
    have hrun : ∀ te, S.ty.find el = some te → ∀ b off m c, a.eval x = .slice (some ⟨b, off, none⟩) m c → (0 ≤ i ∧ i < m) → (execOp a.eval o).run P w = .ok (.value (.pointer (some ⟨b, off + i.toNat * te.size, none⟩))) w := by
      intro te hte b off m c he hb
      simp [execOp, ho, he, hye, Instr.indexAt, hdd, asIntOf, hb, run_sizeOf hS hte, add_off]
    split at hx
    · rename_i te p m c hte hv
      rw [hv] at hx0
      obtain ⟨hb, hx⟩ := ob_iff.1 hx
      rw [Ptr_def] at hx; unfold Ptr_ at hx
      obtain ⟨b, off, hp, hk⟩ := hx
      subst hp
      exact sound_pure r hd (hrun te hte _ _ _ _ hx0 hb) hk
    · rename_i te u m hte hv
      rw [hv] at hx0
      obtain ⟨hb, hx⟩ := ob_iff.1 hx
      refine sound_same r hd (hrun te hte _ _ _ _ hx0.1 hb) (s := .l u (i.toNat * te.size)) ⟨?_, hx0.2⟩ hx
      simp
    · exact hx.elim
  · rename_i k el hti
    obtain ⟨d, hdd, hag, htd'⟩ := run_under hS hti w
    cases d <;> simp only [tdOf] at htd' <;> try cases htd'
    have hrun : ∀ te, S.ty.find el = some te → ∀ b off, a.eval x = .pointer (some ⟨b, off, none⟩) → (0 ≤ i ∧ i < k) → (execOp a.eval o).run P w = .ok (.value (.pointer (some ⟨b, off + i.toNat * te.size, none⟩))) w := by
      intro te hte b off he hb
      simp [execOp, ho, he, hye, Instr.indexAt, hdd, asIntOf, hb, Instr.sureAddr, run_sizeOf hS hte, add_off]
    split at hx
    · rename_i te b off hte hv
      rw [hv] at hx0
      obtain ⟨hb, hx⟩ := ob_iff.1 hx
      exact sound_pure r hd (hrun te hte _ _ hx0 hb) hx
    · rename_i te u off hte hv
      rw [hv] at hx0
      obtain ⟨hb, hx⟩ := ob_iff.1 hx
      exact sound_same r hd (hrun te hte _ _ hx0.1 hb) (s := .l u (off + i.toNat * te.size)) ⟨rfl, hx0.2⟩ hx
    · exact hx.elim
  · exact hx.elim
theorem sound_extract (r : Rel D n h0 w0 β e h a w) (hd : ∀ d', o.dst = some d' → d' < n) {x : Operand} {i : Nat} {vs : Array Value} {v : Value} (ho : o.op = .extract x i)
    (hxv : e.get x = .v (.tuple vs)) (hv : pickNat 0 (take 1 (drop i vs.toList)) = some v) (hx : K (.v v) none h) : Sound D P n h0 w0 o a w e K E := by
  refine sound_pure r hd ?_ hx
  have : vs[i]? = some v := by
    unfold pickNat at hv
    split at hv
    · rename_i l hl
      obtain ⟨h1, h2⟩ := takeDrop_spec hl
      match l, h1, hv, h2 with
      | [u], _, hv, h2 =>
        simp only [Option.some.injEq] at hv
        subst hv
        have := h2 0 u rfl
        simpa using this
    · cases hv
  simp [execOp, ho, r.eval hxv, Instr.extract, this]
theorem growBy_le (nl : Nat) : ∀ (k c : Nat), 256 ≤ c → Builtin.growBy nl k c ≤ 2 ^ k * c
  | 0, c, _ => by simp [Builtin.growBy]
  | k + 1, c, h => by
    unfold Builtin.growBy
    split
    · have : 1 ≤ 2 ^ (k + 1) := Nat.one_le_two_pow
      exact Nat.le_mul_of_pos_left c this
    · have h1 := growBy_le nl k (c + (c + 768) / 4) (by omega)
      have h2 : c + (c + 768) / 4 ≤ 2 * c := by omega
      calc _ ≤ 2 ^ k * (c + (c + 768) / 4) := h1
        _ ≤ 2 ^ k * (2 * c) := Nat.mul_le_mul_left _ h2
        _ = 2 ^ (k + 1) * c := by rw [Nat.pow_succ, Nat.mul_assoc]
theorem nextcap_le {need cap : Nat} (h : cap < need) : Builtin.nextslicecap need cap ≤ 16 * need := by
  unfold Builtin.nextslicecap
  split
  · omega
  · split
    · omega
    · have := growBy_le need 4 cap (by omega)
      omega
theorem zeroCells_eq (z : Array Value) (k : Nat) : Builtin.zeroCells z k = ((List.replicate k z.toList).flatten).toArray := zeros_eq z k
theorem appArg_spec (r : Rel D n h0 w0 β e h a w) {size : Nat} {y : Operand} {Kc : Nat → List Value → Prop} (hx : appArg e size (e.get y) h Kc) :
    ∃ m vs, Kc m vs ∧ (∀ w1 : World, (Builtin.lenOf (a.eval y)).run P w1 = .ok m w1) ∧
      ∀ w1 : World, w1.heap = w.heap → (Builtin.firstCells size m (a.eval y)).run P w1 = .ok vs.toArray w1 := by
  have hy0 := r.eval_ok y
  unfold appArg at hx
  split at hx
  · rename_i t k hy
    rw [hy] at hy0
    split at hx
    · rename_i cs hb
      split at hx
      · rename_i hl
        have hl := Nat.eq_of_beq_eq_true hl
        refine ⟨k, cs, hx, fun w1 => by rw [hy0.1]; rfl, fun w1 hw => ?_⟩
        rw [hy0.1]
        simp only [Builtin.firstCells, loadCells]
        have := run_loadCells (P := P) (w := w1) cs (β t) 0 0 #[] (fun j v hj => by
          have := box_cell r hb hj
          simp only [World.cell?, hw] at this ⊢
          simpa using this)
        rw [hl] at this
        simpa using this
      · exact hx.elim
    · exact hx.elim
  · rename_i p k c hy
    rw [hy] at hy0
    rw [LdP_def] at hx; unfold LdP_ at hx
    rcases hx with ⟨hz, hx⟩ | ⟨b, off, vs, rfl, hvs, hx⟩
    · have hy0' : a.eval y = .slice p k c := hy0
      refine ⟨k, [], hx, fun w1 => by rw [hy0']; rfl, fun w1 _ => ?_⟩
      rw [hy0']
      rcases hz with rfl | hz
      · rfl
      · cases p with
        | none => rfl
        | some q =>
          simp only [Builtin.firstCells, hz]
          rfl
    · obtain ⟨hl, hc⟩ := rdn_spec _ _ _ hvs
      have hy0' : a.eval y = .slice (some ⟨b, off, none⟩) k c := hy0
      refine ⟨k, vs, hx, fun w1 => by rw [hy0']; rfl, fun w1 hw => ?_⟩
      rw [hy0']
      simp only [Builtin.firstCells, loadCells]
      have := run_loadCells (P := P) (w := w1) vs b off 0 #[] (fun j v hj => by
        have := rd_cell r.mv.view (hc j v hj)
        simp only [World.cell?, hw] at this ⊢
        simpa using this)
      rw [hl] at this
      simpa using this
  · exact hx.elim
theorem sound_append (hS : SigOk P S) (r : Rel D n h0 w0 β e h a w) (hd : ∀ d', o.dst = some d' → d' < n) {t u el : TypeId} {ti tu te : TI} {el' : TypeId} {x y : Operand} {args : Array Operand} {ts : Array TypeId} {p : Option Addr} {k cap : Nat}
    (ho : o.op = .call { callee := .builtin .append, args := args, argTypes := ts }) (hargs : args.toList = [x, y]) (hts : ts.toList = [t, u])
    (hti : S.ty.find t = some ti) (htd : ti.d = .sl el) (htu : S.ty.find u = some tu) (htud : tu.d = .sl el') (hte : S.ty.find el = some te) (hxv : e.get x = .v (.slice p k cap))
    (hx : appArg e te.size (e.get y) h fun m vs => App te.bytes te.size te.zero el h p k cap m vs fun v h' => K (.v v) none h') : Sound D P n h0 w0 o a w e K E := by
  obtain ⟨m, vs, hx, hm, hvs⟩ := appArg_spec (P := P) r hx
  have hargs' : args = #[x, y] := by rw [← hargs]
  have hts' : ts = #[t, u] := by rw [← hts]
  obtain ⟨d, hdd, hag, htd'⟩ := run_under hS hti w
  rw [htd] at htd'
  cases d <;> simp only [tdOf] at htd' <;> try cases htd'
  obtain ⟨du, hdu, _, htu'⟩ := run_under hS htu w
  rw [htud] at htu'
  cases du <;> simp only [tdOf] at htu' <;> try cases htu'
  have hrun : (execOp a.eval o).run P w = ((Builtin.append_ #[t, u] o.type #[.slice p k cap, a.eval y]).run P w).andThen (fun v w' => .ok (.value v) w') := by
    simp [execOp, ho, hargs', hts', resolve, invoke, builtin, r.eval hxv]
  rw [App_def] at hx; unfold App_ at hx
  by_cases hle : k + m ≤ cap
  · obtain ⟨hok, hx⟩ := hx.1 hle
    have happ : ∀ w', (match p with
        | some a => (storeCells (a.add (k * te.size)) vs).run P w = .ok () w'
        | none => w' = w) → (execOp a.eval o).run P w = .ok (.value (.slice p (k + m) cap)) w' := by
      intro w' hw
      rw [hrun]
      simp only [Builtin.append_, List.getElem?_toArray, List.getElem?_cons_zero, List.getElem?_cons_succ, Sem.run_bind, hdd, Result.andThen_ok, run_sizeOf hS hte, hdu, Sem.run_pure, Bool.false_eq_true, if_false, hm, if_pos hle, Bool.not_false, if_true, hvs w rfl]
      cases p with
      | none => simp only at hw; subst hw; simp
      | some pa => simp only at hw; simp [hw]
    rcases p with _ | ⟨b, off, _ | sp⟩
    · obtain ⟨hvs0, hK⟩ := hx
      exact sound_pure r hd (happ w rfl) hK
    · obtain ⟨cs, ty, hb, hle', hK⟩ := hx
      obtain ⟨w', hw1, hw2, hwo⟩ := run_storeCells (P := P) b ty vs (off + k * te.size) 0 w cs (r.mv.view _ _ hb) (by simpa using hle') hok
      refine sound_val r hd (happ w' ?_) (Moves.repl r.mv.view hb _ (by simpa using hw2) hwo) (s := .v (.slice (some ⟨b, off, none⟩) (k + m) cap)) rfl hK
      simp only [add_off]; exact hw1
    · exact hx.elim
  · obtain ⟨hby, hneed, old, hold, hx⟩ := hx.2 (by omega)
    obtain ⟨i, hi, hib, his⟩ := run_bytes hS hte w
    obtain ⟨z, hz, hzc⟩ := run_zero hS hte w
    have hnc := nextcap_le (need := k + m) (cap := cap) (by omega)
    have hnb : Builtin.nextslicecap (k + m) cap * te.bytes ≤ 2 ^ 48 := by
      have h1 := Nat.mul_le_mul_right te.bytes hnc
      rw [Nat.mul_assoc] at h1
      omega
    have holdr : ∀ w1 : World, w1.heap = w.heap → (Builtin.firstCells te.size k (.slice p k cap)).run P w1 = .ok old.toArray w1 := by
      intro w1 hw
      rcases p with _ | ⟨b, off, _ | sp⟩
      · rw [hold.2]; rfl
      · obtain ⟨hl, hc⟩ := rdn_spec _ _ _ hold
        simp only [Builtin.firstCells, loadCells]
        have := run_loadCells (P := P) (w := w1) old b off 0 #[] (fun j v hj => by
          have := rd_cell r.mv.view (hc j v hj)
          simp only [World.cell?, hw] at this ⊢
          simpa using this)
        rw [hl] at this
        simpa using this
      · exact hold.elim
    obtain ⟨nc, hnc1, hnc2⟩ : ∃ nc, k + m ≤ nc ∧ (choose (.appendCap (k + m) cap el)).run P w = .ok nc { w with drawn := w.drawn + 1 } := by
      refine ⟨_, ?_, by simp [Question.forced]; rfl⟩
      simp only [Question.cut]; omega
    have hzc' : z.cells = te.zero.toArray := by rw [← hzc]
    have hmax : ¬ (((k + m : Nat) : Int) > IntKind.i64.max) := by
      have : (IntKind.i64.max : Int) = 9223372036854775807 := by decide
      rw [this]; omega
    refine sound_val r hd (v := .slice (some ⟨w.heap.size, 0, none⟩) (k + m) nc) (w' := { w with drawn := w.drawn + 1, heap := w.heap.push (.cells (old ++ vs ++ (List.replicate (nc - (k + m)) te.zero).flatten).toArray el) }) ?_ ?_ (s := .v (.slice (some ⟨w.heap.size, 0, none⟩) (k + m) nc)) rfl (hx _ nc r.fresh hnc1)
    · rw [hrun]
      simp only [Builtin.append_, List.getElem?_toArray, List.getElem?_cons_zero, List.getElem?_cons_succ, Sem.run_bind, hdd, Result.andThen_ok, run_sizeOf hS hte, hdu, Sem.run_pure, Bool.false_eq_true, if_false, hm, if_neg hle, Bool.not_false, if_true, hi, hib]
      rw [if_neg (by rintro ⟨h1, _⟩; exact hmax h1)]
      simp only [Sem.run_bind, Sem.run_pure, Result.andThen_ok, hi, hib]
      rw [if_neg (by omega)]
      simp only [Sem.run_bind, Sem.run_pure, Result.andThen_ok, hnc2, hi, hib, run_askRoom]
      obtain ⟨i2, hi2, _, _⟩ := run_bytes hS hte { w with drawn := w.drawn + 1 }
      simp only [hi2, Result.andThen_ok]
      rw [holdr { w with drawn := w.drawn + 1 } rfl]
      simp only [Result.andThen_ok]
      rw [hvs { w with drawn := w.drawn + 1 } rfl]
      obtain ⟨z', hz', hzc'⟩ := run_zero hS hte { w with drawn := w.drawn + 1 }
      have hzc'' : z'.cells = te.zero.toArray := by rw [← hzc']
      simp only [Result.andThen_ok, hz', zeroCells_eq, hzc'', Go.newRow, Sem.run_bind, run_newObj, Sem.run_pure]
      simp
    · have := Moves.push r.mv.view (.cells (old ++ vs ++ (List.replicate (nc - (k + m)) te.zero).flatten).toArray el)
      exact ⟨this.view, this.keep, this.dom, this.size, rfl, rfl, rfl⟩
theorem vals_spec : ∀ (xs : List Operand) (Kc : List Value → Prop), vals e xs Kc → ∃ vs, Kc vs ∧ vs.length = xs.length ∧ ∀ i (hi : i < xs.length) (hj : i < vs.length), e.get xs[i] = .v vs[i]
  | [], Kc, h => ⟨[], h, rfl, fun i hi => by simp at hi⟩
  | x :: xs, Kc, h => by
    simp only [vals] at h
    split at h
    · rename_i v hv
      obtain ⟨vs, h1, h2, h3⟩ := vals_spec xs _ h
      refine ⟨v :: vs, h1, by simp [h2], fun i hi hj => ?_⟩
      cases i with
      | zero => exact hv
      | succ i => exact h3 i (by simpa using hi) (by simpa using hj)
    · exact h.elim
theorem vals_map (r : Rel D n h0 w0 β e h a w) {xs : Array Operand} {vs : List Value} (h1 : vs.length = xs.toList.length) (h2 : ∀ i (hi : i < xs.toList.length) (hj : i < vs.length), e.get xs.toList[i] = .v vs[i]) : xs.map a.eval = vs.toArray := by
  apply Array.ext
  · simp at h1 ⊢; exact h1.symm
  · intro i hi hj
    simp at hi hj
    have := h2 i (by simpa using hi) hj
    simp only [Array.getElem_toList] at this
    simp [r.eval this]
theorem sound_callFn (hS : SigOk P S) (r : Rel D n h0 w0 β e h a w) (hd : ∀ d', o.dst = some d' → d' < n) {x : Bool} {f : Operand} {fv : Value} {args : Array Operand} {ts : Array TypeId} (ho : o.op = .call { callee := .value f, args := args, argTypes := ts })
    (hf : e.get f = .v fv) (hx : vals e args.toList fun args => callFn P S x fv args h K E) : Sound D P n h0 w0 o a w e K E := by
  obtain ⟨vs, hx, h1, h2⟩ := vals_spec _ _ hx
  have hargs := vals_map r h1 h2
  unfold callFn at hx
  split at hx
  · rename_i g first captured hx9
    split at hx
    · rename_i hlo hhi
      obtain ⟨fn, hfn, hbody, hname⟩ := hS.fn g (Nat.le_of_ble_eq_true hlo) (by have := hhi; simp [Nat.blt] at this; omega)
      rw [forceL_eq] at hx
      have hrun : (execOp a.eval o).run P w = .ok (.enter g (first ++ vs.toArray ++ captured)) w := by
        simp only [execOp, ho, resolve, r.eval hf, Deferred.ofValue, hargs, Sem.run_bind, Sem.run_pure, Result.andThen_ok, invoke, callFunc, run_program, hfn, hname, Bool.false_eq_true, if_false, hbody]
      have harr : (first.toList ++ vs ++ captured.toList).toArray = first ++ vs.toArray ++ captured := by
        apply Array.ext'; simp
      have hgo : ∀ R, CallsH P g (first.toList ++ vs ++ captured.toList) h R → (∀ v h', R (.ret v) h' → K (.v v) none h') → (∀ c h', R (.pan c) h' → E c h') → Sound D P n h0 w0 o a w e K E := by
        intro R hR hRk hRe next Q hk hE
        unfold Oper.wp
        rw [hrun]
        simp only [Oper.upon]
        rw [← harr]
        refine (hR w r.mv.view).mono ?_
        intro en w' ⟨h', m, hm⟩
        cases en with
        | returned v => exact hk _ none h' β _ w' (hRk v h' hm) (r.put m o.dst hd rfl)
        | panicked c => exact hE c h' a w' (hRe c h' hm) (r.mv.trans m) r.nod
        | outgrown => exact hm.elim
      split at hx
      · rw [CallX_def] at hx; unfold CallX_ at hx
        exact hgo _ hx (fun v h' hh => hh.2) (fun c h' hh => hh)
      · rw [Call_def] at hx; unfold Call_ at hx
        exact hgo _ hx (fun v h' hh => hh) (fun c h' hh => hh)
    · exact hx.elim
  · exact hx.elim
theorem sound_len (hS : SigOk P S) (r : Rel D n h0 w0 β e h a w) (hd : ∀ d', o.dst = some d' → d' < n) {x : Operand} {args : Array Operand} {ts : Array TypeId} {k c : Nat} {p : Option Addr} {ti : TI} {el : TypeId} (ho : o.op = .call { callee := .builtin .len, args := args, argTypes := ts })
    (hargs : args.toList = [x]) (hti : (ts.toList.head?).bind (fun t => S.ty.find t) = some ti) (htd : ti.d = .sl el) (hxv : a.eval x = .slice p k c) (hx : K (.v (.int .i64 k)) none h) : Sound D P n h0 w0 o a w e K E := by
  refine sound_pure r hd ?_ hx
  have hargs' : args = #[x] := by rw [← hargs]
  cases hts : ts.toList with
  | nil => rw [hts] at hti; cases hti
  | cons t ts' =>
    rw [hts] at hti
    simp only [List.head?_cons, Option.bind_some] at hti
    obtain ⟨d, hdd, hag, htd'⟩ := run_under hS hti w
    rw [htd] at htd'
    cases d <;> simp only [tdOf] at htd' <;> try cases htd'
    have h0 : ts[0]? = some t := by rw [← Array.getElem?_toList, hts]; rfl
    simp [execOp, ho, hargs', resolve, invoke, builtin, hxv, Builtin.len_, h0, hdd, goInt]
theorem sameKind_eq {j k : IntKind} (hh : sameKind j k = true) : j = k := by cases j <;> cases k <;> simp_all [sameKind]
theorem ar_iff {k : IntKind} {x : Int} {Kc : Int → Prop} : Ar k x Kc ↔ Kc (k.wrap x) := by rw [Ar_def]; unfold Ar_; exact Iff.rfl
theorem run_eqGuard_int (op : BinOp) (t : TypeId) (x y : Operand) (j k : IntKind) (i m : Int) (w : World) : (eqGuard op t x y (.int j i) (.int k m)).run P w = .ok () w := by
  unfold eqGuard
  cases op <;> rfl
theorem sound_binInt (r : Rel D n h0 w0 β e h a w) (hd : ∀ d', o.dst = some d' → d' < n) {op : BinOp} {t u : TypeId} {x y : Operand} {j k : IntKind} {i m : Int} (ho : o.op = .binOp op t x y u)
    (hxv : e.get x = .v (.int j i)) (hyv : e.get y = .v (.int k m)) (hjk : sameKind j k = true) {raw : Prop} (hraw : raw → Sound D P n h0 w0 o a w e K E) (hx : binInt op j i m (fun v => K (.v v) none h) raw) : Sound D P n h0 w0 o a w e K E := by
  have hjk := sameKind_eq hjk
  subst hjk
  have hrun : ∀ v, (Go.binOp op t (.int j i) (.int j m)).run P w = .ok v w → (execOp a.eval o).run P w = .ok (.value v) w := by
    intro v hv
    simp only [execOp, ho, r.eval hxv, r.eval hyv, Sem.run_bind, run_eqGuard_int, Result.andThen_ok, hv, Sem.run_pure]
  cases op <;> simp only [binInt] at hx <;> first
    | exact hraw hx
    | (rw [ar_iff] at hx; exact sound_pure r hd (hrun _ (by simp [Go.binOp, Op.intArith])) hx)
    | (obtain ⟨h1, hx⟩ := ob_iff.1 hx; rw [ar_iff] at hx; exact sound_pure r hd (hrun _ (by simp [Go.binOp, Op.intDiv, h1])) hx)
    | (obtain ⟨h1, hx⟩ := ob_iff.1 hx; exact sound_pure r hd (hrun _ (by simp [Go.binOp, Op.intDiv, h1])) hx)
    | (refine sound_pure r hd (hrun _ ?_) hx
       first
         | (simp [Go.binOp, Op.intCmp]; done)
         | (simp [Go.binOp, Op.intCmp]; rfl)
         | (simp [Go.binOp, Op.intCmp, bne, BEq.beq]; done)
         | (simp [Go.binOp, Op.intBits, bits2]; done))
theorem run_eqGuard_bool (op : BinOp) (t : TypeId) (x y : Operand) (b c : Bool) (w : World) : (eqGuard op t x y (.bool b) (.bool c)).run P w = .ok () w := by
  unfold eqGuard
  cases op <;> rfl
theorem run_equal_bool {t : TypeId} {b c : Bool} {w : World} (hd : (underlying t).run P w = .ok .bool w) : (Op.equal t (.bool b) (.bool c)).run P w = .ok (b == c) w := by
  unfold Op.equal Op.maxDepth
  rw [show (10000 : Nat) = 9999 + 1 from rfl, Op.equalIn]
  simp only [Sem.run_bind, hd, Result.andThen_ok]
  rfl
theorem sound_raw (r : Rel D n h0 w0 β e h a w) (hd : ∀ d', o.dst = some d' → d' < n) (hx : Raw P o e h fun v h' => K (.v v) none h') : Sound D P n h0 w0 o a w e K E := by
  rw [Raw_def] at hx; unfold Raw_ at hx
  obtain ⟨hv, hx⟩ := hx
  obtain ⟨v, w', h', hrun, m, hK⟩ := hx a.eval (fun x hxm => by obtain ⟨v, hv⟩ := hv x hxm; rw [hv, r.eval hv]) w r.mv.view
  rcases hrun with hrun | ⟨hrun, rfl⟩
  · exact sound_val r hd hrun m (s := .v v) rfl hK
  · exact sound_skip r hd hrun m hK
theorem sound_raw' (r : Rel D n h0 w0 β e h a w) (hd : ∀ d', o.dst = some d' → d' < n) {x : Bool} (hx : match x && !isW o.op with
    | true => False
    | false => Raw P o e h fun v h' => K (.v v) none h') : Sound D P n h0 w0 o a w e K E := by
  split at hx
  · exact hx.elim
  · exact sound_raw r hd hx
theorem sound_rawP (r : Rel D n h0 w0 β e h a w) (hd : ∀ d', o.dst = some d' → d' < n) {x : Bool} (hx : rawP P o e h x K) : Sound D P n h0 w0 o a w e K E := by
  unfold rawP at hx
  split at hx
  · rw [RawP_def] at hx; unfold RawP_ at hx
    obtain ⟨hv, v, hK, hrun⟩ := hx
    exact sound_pure r hd (hrun a.eval (fun x hxm => by obtain ⟨v, hv⟩ := hv x hxm; rw [hv, r.eval hv]) w) hK
  · exact sound_raw r hd hx
theorem sound_move (r : Rel D n h0 w0 β e h a w) (hd : ∀ d', o.dst = some d' → d' < n) {x : Operand} (ho : (execOp a.eval o).run P w = .ok (.value (a.eval x)) w) (hx : match e.get x with
        | .x => False
        | s => K s none h) : Sound D P n h0 w0 o a w e K E := by
  have hx0 := r.eval_ok x
  split at hx
  · exact hx.elim
  · exact sound_same r hd ho hx0 hx
theorem exec_sound (hS : SigOk P S) {F : Fs} {x : Bool} (r : Rel D n h0 w0 β e h a w) (hd : ∀ d', o.dst = some d' → d' < n) (hx : exec P S F x o e h K E) : Sound D P n h0 w0 o a w e K E := by
  obtain ⟨dst, op, ty, pos, after, guard⟩ := o
  cases op with
  | move y => exact sound_move r hd (x := y) (by simp [execOp]) hx
  | assign y => exact sound_move r hd (x := y) (by simp [execOp]) hx
  | pick c y z =>
    simp only [exec] at hx
    split at hx
    · rename_i t ht
      have hc := r.eval ht
      cases t with
      | true => exact sound_move r hd (x := y) (by simp [execOp, hc, asBool]) hx
      | false => exact sound_move r hd (x := z) (by simp [execOp, hc, asBool]) hx
    · exact hx.elim
  | alloc t =>
    simp only [exec] at hx
    split at hx
    · rename_i ti hti; exact sound_alloc hS r hd rfl hti hx
    · exact hx.elim
  | box t y =>
    simp only [exec] at hx
    split at hx
    · rename_i v ti hv hti; exact sound_boxOp hS r hd rfl hti hv hx
    · exact hx.elim
  | build t ps => exact sound_build hS r hd rfl hx
  | buildSlice t k ps =>
    simp only [exec] at hx
    split at hx
    · rename_i el hti
      split at hx
      · rename_i te hte
        split at hx
        · rename_i hle; exact sound_buildSlice hS r hd rfl hti rfl hte (Nat.le_of_ble_eq_true hle) hx
        · exact hx.elim
      · exact hx.elim
    · exact hx.elim
  | load t y =>
    simp only [exec] at hx
    split at hx
    · rename_i ti hti
      split at hx
      · split at hx
        · rename_i u off hy; rw [← hy] at hx; exact sound_load hS r hd rfl hti hx
        · exact hx.elim
      · exact sound_load hS r hd rfl hti hx
    · exact hx.elim
  | store t y z =>
    simp only [exec] at hx
    split at hx
    · rename_i ti v hti hv; exact sound_store hS r hd rfl hti hv hx
    · exact hx.elim
  | nilCheck y =>
    simp only [exec] at hx
    have hy0 := r.eval_ok y
    split at hx
    · rename_i t off hy
      rw [hy] at hy0
      exact sound_same r hd (v := .pointer (some ⟨β t, off, none⟩)) (by simp [execOp, hy0.1]) (s := .l t off) ⟨rfl, hy0.2⟩ hx
    · rename_i p hy; exact sound_pure r hd (by simp [execOp, r.eval hy]) hx
    · rename_i t v hy; exact sound_pure r hd (by simp [execOp, r.eval hy]) hx
    · rename_i g f c hy; exact sound_pure r hd (by simp [execOp, r.eval hy]) hx
    · exact sound_raw' r hd hx
  | binOp op t y z u =>
    simp only [exec] at hx
    split at hx
    · rename_i j i k m hy hz
      split at hx
      · rename_i hjk; exact sound_binInt r hd rfl hy hz hjk (sound_raw' r hd) hx
      · exact sound_raw' r hd hx
    · rename_i b c hy hz
      split at hx
      · rename_i hti
        obtain ⟨d, hdd, _, htd⟩ := run_under hS hti w
        cases d <;> simp only [tdOf] at htd <;> try cases htd
        split at hx
        · refine sound_pure r hd ?_ hx
          simp only [execOp, r.eval hy, r.eval hz, Sem.run_bind, run_eqGuard_bool, Result.andThen_ok]
          rw [show Go.binOp .eql t (.bool b) (.bool c) = (do pure (.bool (← Op.equal t (.bool b) (.bool c)))) from rfl]
          simp only [Sem.run_bind, run_equal_bool hdd, Result.andThen_ok, Sem.run_pure]
        · refine sound_pure r hd ?_ hx
          simp only [execOp, r.eval hy, r.eval hz, Sem.run_bind, run_eqGuard_bool, Result.andThen_ok]
          rw [show Go.binOp .neq t (.bool b) (.bool c) = (do pure (.bool (!(← Op.equal t (.bool b) (.bool c))))) from rfl]
          simp only [Sem.run_bind, run_equal_bool hdd, Result.andThen_ok, Sem.run_pure, bne]
        · exact sound_raw' r hd hx
      · exact sound_raw' r hd hx
    · exact sound_rawP r hd hx
  | unOp op t y =>
    simp only [exec] at hx
    split at hx
    · rename_i b hy; exact sound_pure r hd (by simp [execOp, r.eval hy, Op.unary]) hx
    · rename_i k m hy; rw [ar_iff] at hx; exact sound_pure r hd (by simp [execOp, r.eval hy, Op.unary, Op.intArith]) hx
    · exact sound_raw' r hd hx
  | convert s t y =>
    simp only [exec] at hx
    split at hx
    · rename_i ti tj k m hti htj hy
      split at hx
      · rename_i k' hd1
        rw [ar_iff] at hx
        refine sound_pure r hd ?_ hx
        obtain ⟨d, hdd, _, htd⟩ := run_under hS htj w
        obtain ⟨d', hdd', _, _⟩ := run_under hS hti w
        rw [hd1] at htd
        cases d <;> simp only [tdOf] at htd <;> try cases htd
        simp only [execOp, Go.convert, Sem.run_bind, hdd', hdd, Result.andThen_ok, r.eval hy, Conv.intToInt, Sem.run_pure]
      · exact sound_raw' r hd hx
    · exact sound_raw' r hd hx
  | index t y z =>
    simp only [exec] at hx
    split at hx
    · rename_i s k i hy hz
      split at hx
      · rename_i hti
        obtain ⟨hb, hx⟩ := ob_iff.1 hx
        refine sound_pure r hd ?_ hx
        obtain ⟨d, hdd, _, htd⟩ := run_under hS hti w
        cases d <;> simp only [tdOf] at htd <;> try cases htd
        have hlt : i.toNat < s.size := by omega
        have hg : s[i.toNat]? = some (s[i.toNat]'hlt) := by simp [hlt]
        have hl : s.data.toList.getD i.toNat 0 = s[i.toNat]'hlt := by
          have : i.toNat < s.data.toList.length := by simpa using hlt
          have h2 : s.data[i.toNat]? = some (s.data[i.toNat]'hlt) := Array.getElem?_eq_getElem hlt
          simp [List.getD_eq_getElem?_getD, h2]; rfl
        simp only [execOp, Instr.index, r.eval hy, r.eval hz, asIntOf, Sem.run_bind, Sem.run_pure, Result.andThen_ok, hdd, if_pos hb.1, hg, hl]
      · exact sound_raw' r hd hx
    · exact sound_raw' r hd hx
  | makeInterface t y =>
    simp only [exec] at hx
    split at hx
    · rename_i ti v hti hy
      split at hx
      · exact hx.elim
      · rename_i hne
        refine sound_pure r hd ?_ hx
        obtain ⟨d, hdd, _, htd⟩ := run_under hS hti w
        cases d <;> first
          | (exfalso; exact hne (by rw [← htd]; rfl))
          | simp [execOp, r.eval hy, Instr.makeInterface, hdd]
    · exact hx.elim
  | makeFunc f fs cs =>
    simp only [exec] at hx
    obtain ⟨vs, hx, h1, h2⟩ := vals_spec _ _ hx
    obtain ⟨us, hx, h3, h4⟩ := vals_spec _ _ hx
    exact sound_pure r hd (by simp only [execOp, vals_map r h1 h2, vals_map r h3 h4, Instr.makeFunc]; rfl) hx
  | slice t y lo hi mx =>
    simp only [exec] at hx
    split at hx
    · rename_i el hti
      split at hx
      · rename_i te p m cap hte hy; exact sound_slice hS r hd rfl hti rfl hte hy hx
      · exact sound_raw' r hd hx
    · exact sound_raw' r hd hx
  | fieldAddr t y i =>
    simp only [exec] at hx
    split at hx
    · rename_i fs hti
      split at hx
      · rename_i k u hf; exact sound_fieldAddr hS r hd rfl hti rfl hf hx
      · exact hx.elim
    · exact hx.elim
  | field t y i =>
    simp only [exec] at hx
    split at hx
    · rename_i fs hti
      split at hx
      · rename_i k u hf
        split at hx
        · rename_i cs tu hy htu
          split at hx
          · rename_i vs hvs; exact sound_field hS r hd rfl hti rfl hf hy htu hx hvs
          · exact hx.elim
        · exact hx.elim
      · exact hx.elim
    · exact hx.elim
  | indexAddr t y z =>
    simp only [exec] at hx
    split at hx
    · rename_i k i hz; exact sound_indexAddr hS r hd rfl hz hx
    · exact hx.elim
  | extract y i =>
    simp only [exec] at hx
    split at hx
    · rename_i vs hy
      split at hx
      · rename_i v hv; exact sound_extract r hd rfl hy hv hx
      · exact hx.elim
    · exact hx.elim
  | makeSlice t y z =>
    simp only [exec] at hx
    split at hx
    · rename_i el hti
      split at hx
      · rename_i te k c hte hy hz; exact sound_makeSlice hS r hd rfl hti rfl hte hy hz hx
      · exact hx.elim
    · exact hx.elim
  | panic y =>
    simp only [exec] at hx
    split at hx
    · rename_i t v hy
      intro next Q hk hE
      unfold Oper.wp
      have : (execOp a.eval ⟨dst, .panic y, ty, pos, after, guard⟩).run P w = .halt (.panic (.iface t v)) w := by
        simp [execOp, r.eval hy, Instr.panic]
      rw [this]
      exact hE _ h a w hx r.mv r.nod
    · exact hx.elim
  | call c =>
    obtain ⟨callee, args, ts⟩ := c
    cases callee with
    | value f =>
      simp only [exec] at hx
      split at hx
      · rename_i fv hf; exact sound_callFn hS r hd rfl hf hx
      · exact hx.elim
    | invoke y m => exact sound_raw' r hd hx
    | builtin b =>
      cases b with
      | len =>
        simp only [exec] at hx
        split at hx
        · rename_i y hargs
          have hy0 := r.eval_ok y
          split at hx
          · rename_i p k c hy
            rw [hy] at hy0
            split at hx
            · rename_i el hti; exact sound_len hS r hd rfl hargs hti rfl hy0 hx
            · exact hx.elim
          · rename_i u k hy
            rw [hy] at hy0
            split at hx
            · rename_i el hti; exact sound_len hS r hd rfl hargs hti rfl hy0.1 hx
            · exact hx.elim
          · exact sound_raw' r hd hx
        · exact hx.elim
      | max =>
        simp only [exec] at hx
        split at hx
        · rename_i y z hargs
          split at hx
          · rename_i k m k' m' hy hz
            split at hx
            · have hargs' : args = #[y, z] := by rw [← hargs]
              refine sound_pure r hd ?_ hx
              simp only [execOp, resolve, Sem.run_bind, Sem.run_pure, Result.andThen_ok, invoke, builtin, Builtin.max_, hargs']
              simp [r.eval hy, r.eval hz, Builtin.max2, mx]
            · exact sound_raw' r hd hx
          · exact sound_raw' r hd hx
        · exact sound_raw' r hd hx
      | min =>
        simp only [exec] at hx
        split at hx
        · rename_i y z hargs
          split at hx
          · rename_i k m k' m' hy hz
            split at hx
            · have hargs' : args = #[y, z] := by rw [← hargs]
              refine sound_pure r hd ?_ hx
              simp only [execOp, resolve, Sem.run_bind, Sem.run_pure, Result.andThen_ok, invoke, builtin, Builtin.min_, hargs']
              simp [r.eval hy, r.eval hz, Builtin.min2, mn]
            · exact sound_raw' r hd hx
          · exact sound_raw' r hd hx
        · exact sound_raw' r hd hx
      | cap =>
        simp only [exec] at hx
        split at hx
        · rename_i y hargs
          split at hx
          · rename_i p k c hy
            split at hx
            · rename_i el hti
              have hargs' : args = #[y] := by rw [← hargs]
              refine sound_pure r hd ?_ hx
              cases hts : ts.toList with
              | nil => rw [hts] at hti; cases hti
              | cons t ts' =>
                rw [hts] at hti
                simp only [List.head?_cons, Option.bind_some] at hti
                obtain ⟨d, hdd, hag, htd'⟩ := run_under hS hti w
                cases d <;> simp only [tdOf] at htd' <;> try cases htd'
                have h0 : ts[0]? = some t := by rw [← Array.getElem?_toList, hts]; rfl
                simp [execOp, hargs', resolve, invoke, builtin, r.eval hy, Builtin.cap_, h0, hdd, goInt]
            · exact hx.elim
          · exact sound_raw' r hd hx
        · exact hx.elim
      | append =>
        simp only [exec] at hx
        split at hx
        · rename_i y z t u hargs hts
          split at hx
          · rename_i el el' hti htu
            split at hx
            · rename_i te hte
              split at hx
              · rename_i p k cap hy; exact sound_append hS r hd rfl hargs hts hti rfl htu rfl hte hy hx
              · exact hx.elim
            · exact hx.elim
          · exact sound_raw' r hd hx
        · exact hx.elim
      | _ => exact sound_raw' r hd hx
  | _ => exact sound_raw' r hd hx
end Go.Vc
namespace Go.Vc
set_option linter.constructorNameAsVariable false
set_option linter.unusedVariables false
variable {D : List Deferred} {P : Program} {S : Sig} {n : Nat} {h0 : Heap} {w0 : World} {β : Nat → Nat} {e : Env} {h : Heap} {a : Act} {w : World}
theorem nth_eq : ∀ (l : List Oper) (i : Nat), nth l i = l[i]?
  | [], i => by cases i <;> rfl
  | _ :: _, 0 => rfl
  | _ :: r, i + 1 => by simp [nth, nth_eq r i]
theorem sel_split {b : Bool} {t f : Prop} (hx : sel b t f) : (b = true ∧ t) ∨ (b = false ∧ f) := by
  cases b
  · exact .inr ⟨rfl, hx⟩
  · exact .inl ⟨rfl, hx⟩
theorem Rel.known (r : Rel D n h0 w0 β e h a w) {d : Nat} {b : Bool} (hs : e.s d = .v (.bool b)) : Rel D n h0 w0 β (e.put (some d) (.v (.bool b)) none) h a w where
  size := r.size
  nod := r.nod
  slot t := by
    simp only [Env.put]
    by_cases hh : t = d
    · simp only [hh, if_true]; have := r.slot d; rw [hs] at this; exact this
    · simp only [hh, if_false]; have := r.slot t; revert this; cases e.s t <;> exact id
  box := r.box
  inj := r.inj
  mv := r.mv
theorem yielded_eq (r : Rel D n h0 w0 β e h a w) {ops : Array Oper} {j d : Nat} {o : Oper} (ho : ops[j]? = some o) (hd : o.dst = some d) {b : Bool} (hs : e.s d = .v (.bool b)) : yielded ops a.tmps j = some b := by
  have := r.slot d
  rw [hs] at this
  have hv : a.tmps.getD d undef = .bool b := this
  have : a.tmps[d]? = some (.bool b) := by
    rw [Array.getD_eq_getD_getElem?] at hv
    cases hg : a.tmps[d]? with
    | none => rw [hg] at hv; simp [undef] at hv
    | some v => rw [hg] at hv; simp at hv; rw [hv]
  simp [yielded, ho, hd, this]
theorem yielded_none (r : Rel D n h0 w0 β e h a w) {ops : Array Oper} {j d : Nat} {o : Oper} (ho : ops[j]? = some o) (hd : o.dst = some d) {vs : Array Value} (hs : e.s d = .v (.tuple vs)) : yielded ops a.tmps j = none := by
  have := r.slot d
  rw [hs] at this
  have hv : a.tmps.getD d undef = .tuple vs := this
  cases hg : a.tmps[d]? with
  | none => simp [yielded, ho, hd, hg]
  | some v =>
    rw [Array.getD_eq_getD_getElem?, hg] at hv
    simp at hv
    simp [yielded, ho, hd, hg, hv]
theorem oneOp_sound (hS : SigOk P S) {F : Fs} {x : Bool} {ops : Array Oper} {i : Nat} {o : Oper} (hi : ops[i]? = some o) {K : Env → Heap → Prop} {E : List PanicEntry → Heap → Prop} (r : Rel D n h0 w0 β e h a w) (hd : ∀ d', o.dst = some d' → d' < n)
    (hx : oneOp P S F x ops.toList o e h K E) {next : Act → World → Prop} {Q : Exit → Act → World → Prop}
    (hk : ∀ e' h' β' a' w', K e' h' → Rel D n h0 w0 β' e' h' a' w' → next a' w')
    (hE : ∀ c h' a' w', E c h' → Moves h0 w0 h' w' → a'.defers = D → Q (.panic c) a' w') : wpOp P ops Q i next a w := by
  have run : ∀ e1, Rel D n h0 w0 β e1 h a w → exec P S F x o e1 h (fun s bx h' => K (e1.put o.dst s bx) h') E → o.wp P a w next Q := by
    intro e1 r1 hx1
    exact exec_sound hS r1 hd hx1 next Q (fun s bx h' β' a' w' hK hR => hk _ _ β' _ _ hK hR) hE
  have skip : ∀ e1, Rel D n h0 w0 β e1 h a w → K (e1.put o.dst (.v undef) none) h → next (a.put o.dst undef) w := by
    intro e1 r1 hK
    exact hk _ _ β _ _ hK (r1.put (Moves.refl r1.mv.view) o.dst hd rfl)
  have yes : ∀ e1, Region.wanted o (yielded ops a.tmps) = true → Rel D n h0 w0 β e1 h a w → exec P S F x o e1 h (fun s bx h' => K (e1.put o.dst s bx) h') E → wpOp P ops Q i next a w := by
    intro e1 hw r1 hx1
    unfold wpOp
    simp only [hi, hw, if_true]
    exact .inl (run e1 r1 hx1)
  have no : ∀ e1, Region.wanted o (yielded ops a.tmps) = false → Rel D n h0 w0 β e1 h a w → K (e1.put o.dst (.v undef) none) h → wpOp P ops Q i next a w := by
    intro e1 hw r1 hx1
    unfold wpOp
    simp only [hi, hw, Bool.false_eq_true, if_false]
    exact skip e1 r1 hx1
  unfold oneOp guardOf at hx
  cases hg : o.guard with
  | none =>
    simp only [hg] at hx
    exact yes e (by simp [Region.wanted, hg]) r hx
  | some jw =>
    obtain ⟨j, want⟩ := jw
    simp only [hg, nth_eq, Array.getElem?_toList] at hx
    cases ho : ops[j]? with
    | none =>
      simp only [ho] at hx
      exact no e (by simp [Region.wanted, hg, yielded, ho]) r hx
    | some o' =>
      simp only [ho] at hx
      cases hd' : o'.dst with
      | none =>
        simp only [hd'] at hx
        exact no e (by simp [Region.wanted, hg, yielded, ho, hd']) r hx
      | some d =>
        simp only [hd'] at hx
        split at hx
        · rename_i b hb
          have hy := yielded_eq r ho hd' hb
          rcases sel_split hx with ⟨rfl, hx⟩ | ⟨rfl, hx⟩
          · cases want with
            | true => exact yes _ (by simp [Region.wanted, hg, hy]) (r.known hb) hx
            | false => exact no _ (by simp [Region.wanted, hg, hy]) (r.known hb) hx
          · cases want with
            | true => exact no _ (by simp [Region.wanted, hg, hy]) (r.known hb) hx
            | false => exact yes _ (by simp [Region.wanted, hg, hy]) (r.known hb) hx
        · rename_i vs hb
          exact no e (by simp [Region.wanted, hg, yielded_none r ho hd' hb]) r hx
        · exact hx.elim
theorem wopsL_sound (hS : SigOk P S) {F : Fs} {ops : Array Oper} (hd : ∀ o ∈ ops.toList, ∀ d', o.dst = some d' → d' < n) {K : Env → Heap → Prop} {E : List PanicEntry → Heap → Prop} {Q : Exit → Act → World → Prop}
    (hk : ∀ e' h' β' a' w', K e' h' → Rel D n h0 w0 β' e' h' a' w' → Q .normal a' w')
    (hE : ∀ c h' a' w', E c h' → Moves h0 w0 h' w' → a'.defers = D → Q (.panic c) a' w') :
    ∀ (l : List Oper) (k : Nat) (e : Env) (h : Heap) (β : Nat → Nat) (a : Act) (w : World), (∀ j, l[j]? = ops[k + j]?) → Rel D n h0 w0 β e h a w →
      wopsL P S F ops.toList K E l e h → wpOps P ops Q (List.range' k l.length) a w
  | [], k, e, h, β, a, w, _, r, hx => hk _ _ β _ _ hx r
  | o :: l, k, e, h, β, a, w, hl, r, hx => by
    have h0 : ops[k]? = some o := by simpa using (hl 0).symm
    rw [List.length_cons, List.range'_succ, wpOps_cons]
    refine oneOp_sound hS h0 r (hd o (by rw [← Array.getElem?_toList] at h0; exact List.mem_of_getElem? h0)) hx (fun e' h' β' a' w' hK hR => ?_) hE
    exact wopsL_sound hS hd hk hE l (k + 1) e' h' β' a' w' (fun j => by have := hl (j + 1); simpa [Nat.add_assoc, Nat.add_comm 1 j] using this) hR hK
def Code.dstOk (n : Nat) : Code → Bool
  | .region _ ops _ => ops.toList.all fun o => match o.dst with | some d => Nat.blt d n | none => true
  | .seq a b => Code.dstOk n a && Code.dstOk n b
  | .cond _ a b => Code.dstOk n a && Code.dstOk n b
  | .block _ c => Code.dstOk n c
  | .loop c => Code.dstOk n c
  | .scope c => Code.dstOk n c
  | _ => true
theorem dst_of {n : Nat} {ops : Array Oper} (hx : (ops.toList.all fun o => match o.dst with | some d => Nat.blt d n | none => true) = true) : ∀ o ∈ ops.toList, ∀ d', o.dst = some d' → d' < n := by
  intro o ho d hd
  have := List.all_eq_true.1 hx o ho
  simp only [hd] at this
  exact Nat.le_of_ble_eq_true this
def DrawOk (P : Program) (S : Sig) (F : Fs) (n : Nat) (id : Nat) (ops : Array Oper) : Prop :=
  ∀ (D : List Deferred) (K : Env → Heap → Prop) (E : List PanicEntry → Heap → Prop) (Q : Exit → Act → World → Prop) (h0 : Heap) (w0 : World) (β : Nat → Nat) (e : Env) (h : Heap) (a : Act) (w : World),
    drawn P S F id ops.toList K E e h → Rel D n h0 w0 β e h a w → (∀ e' h' β' a' w', K e' h' → Rel D n h0 w0 β' e' h' a' w' → Q .normal a' w') →
    (∀ c h' a' w', E c h' → Moves h0 w0 h' w' → a'.defers = D → Q (.panic c) a' w') → wpAny P .any ops Q ops.size (Array.replicate ops.size false) a w
def Code.drawsOk (P : Program) (S : Sig) (F : Fs) (n : Nat) : Code → Prop
  | .region id ops true => DrawOk P S F n id ops
  | .seq a b => Code.drawsOk P S F n a ∧ Code.drawsOk P S F n b
  | .cond _ a b => Code.drawsOk P S F n a ∧ Code.drawsOk P S F n b
  | .block _ c => Code.drawsOk P S F n c
  | .loop c => Code.drawsOk P S F n c
  | .scope c => Code.drawsOk P S F n c
  | _ => True
def Post (D : List Deferred) (n : Nat) (h0 : Heap) (w0 : World) (K : Ex → Env → Heap → Prop) : Exit → Act → World → Prop
  | .normal, a, w => ∃ β e h, K .normal e h ∧ Rel D n h0 w0 β e h a w
  | .exit i, a, w => ∃ β e h, K (.exit i) e h ∧ Rel D n h0 w0 β e h a w
  | .ret, a, w => ∃ β e h, K .ret e h ∧ Rel D n h0 w0 β e h a w
  | .panic c, a, w => ∃ e h, K (.pan c) e h ∧ Moves h0 w0 h w ∧ a.defers = D
  | .goto _, _, _ => False
  | .outgrown, _, _ => False
theorem slotIn_map (f : Nat → Slot) (t : Nat) : ∀ ls : List Nat, slotIn ls (ls.map f) t = f t ∨ slotIn ls (ls.map f) t = .x
  | [] => .inr rfl
  | i :: ls => by
    simp only [List.map_cons, slotIn]
    split
    · rename_i hh; subst hh; exact .inl rfl
    · exact slotIn_map f t ls
theorem boxIn_map (f : Nat → Option (List Value)) (t : Nat) : ∀ bs : List Nat, boxIn bs (bs.map f) t = if bs.contains t then f t else none
  | [] => rfl
  | i :: bs => by
    simp only [List.map_cons, boxIn]
    by_cases hh : t = i
    · subst hh; simp
    · rw [if_neg hh, boxIn_map f t bs]; simp [hh]
theorem Rel.narrow (r : Rel D n h0 w0 β e h a w) (ls bs : List Nat) : Rel D n h0 w0 β (envIn ls bs (ls.map e.s) (bs.map e.b)) h a w where
  size := r.size
  nod := r.nod
  slot t := by
    have hb : ∀ u, (envIn ls bs (ls.map e.s) (bs.map e.b)).b u = if bs.contains u then e.b u else none := fun u => boxIn_map e.b u bs
    show slotOk β _ ((slotIn ls (ls.map e.s) t).clean bs) _
    have r0 := r.slot t
    rcases slotIn_map e.s t ls with hh | hh
    · rw [hh]
      revert r0
      cases e.s t with
      | v x => exact id
      | x => exact id
      | l u off =>
        intro r0
        simp only [Slot.clean]
        split
        · rename_i hc; exact ⟨r0.1, by rw [hb, if_pos hc]; exact r0.2⟩
        · trivial
      | r u k =>
        intro r0
        simp only [Slot.clean]
        split
        · rename_i hc; exact ⟨r0.1, by rw [hb, if_pos hc]; exact r0.2⟩
        · trivial
    · rw [hh]; trivial
  box t cs hb := by
    have : (envIn ls bs (ls.map e.s) (bs.map e.b)).b t = if bs.contains t then e.b t else none := boxIn_map e.b t bs
    rw [this] at hb
    split at hb
    · exact r.box t cs hb
    · cases hb
  inj t u ht hu hβ := by
    have hb : ∀ u, (envIn ls bs (ls.map e.s) (bs.map e.b)).b u = if bs.contains u then e.b u else none := fun u => boxIn_map e.b u bs
    rw [hb] at ht hu
    refine r.inj t u ?_ ?_ hβ
    · split at ht
      · exact ht
      · cases ht
    · split at hu
      · exact hu
      · cases hu
  mv := r.mv
theorem wp_loopN {c : Code} {Q : Exit → Act → World → Prop} (I : Nat → Act → World → Prop) (k0 : Nat) (h₀ : I k0 a w)
    (round : ∀ k a w, I k a w → c.wp P (Exit.then (fun a' w' => ∃ m, m < k ∧ I m a' w') Q) a w) : (Code.loop c).wp P Q a w := by
  intro b k cs
  have key : ∀ i a w, I i a w → ∃ e a' w', Q e a' w' ∧ Arrives P (lone (b.at a (.code c :: .inLoop c :: k)) cs w) b k cs e a' w' := by
    intro i
    induction i using Nat.strongRecOn with
    | _ i ih =>
      intro a w hI
      obtain ⟨e, a₁, w₁, hq, harr⟩ := round i a w hI b (.inLoop c :: k) cs
      cases e with
      | normal =>
        obtain ⟨m, hlt, hI₁⟩ := hq
        obtain ⟨e₂, a₂, w₂, hq₂, harr₂⟩ := ih m hlt a₁ w₁ hI₁
        exact ⟨e₂, a₂, w₂, hq₂, .of_steps (Steps.trans harr (.one step_inLoop)) harr₂⟩
      | exit id => exact ⟨_, a₁, w₁, hq, .pass (x := .inLoop c) rfl (fun _ _ => .inl (by simp)) harr⟩
      | goto l => exact ⟨_, a₁, w₁, hq, .pass (x := .inLoop c) rfl (fun _ _ => .inl (by simp)) harr⟩
      | ret => exact ⟨_, a₁, w₁, hq, .pass (x := .inLoop c) rfl (fun _ _ => .inl (by simp)) harr⟩
      | panic ch => exact ⟨_, a₁, w₁, hq, .pass (x := .inLoop c) rfl (fun _ _ => .inl (by simp)) harr⟩
      | outgrown => exact ⟨_, a₁, w₁, hq, .pass (x := .inLoop c) rfl (fun _ _ => .inl (by simp)) harr⟩
  obtain ⟨e, a', w', hq, harr⟩ := key _ a w h₀
  exact ⟨e, a', w', hq, .of_steps (.one step_loop) harr⟩
theorem den_sound (hS : SigOk P S) (F : Fs) : ∀ (c : Code) (K : Ex → Env → Heap → Prop) (β : Nat → Nat) (e : Env) (h : Heap) (a : Act) (w : World),
    Code.dstOk n c = true → Code.drawsOk P S F n c → den P S F c K e h → Rel D n h0 w0 β e h a w → c.wp P (Post D n h0 w0 K) a w := by
  intro c
  induction c with
  | skip => intro K β e h a w _ _ hx r; exact wp_skip ⟨β, e, h, hx, r⟩
  | label l => intro K β e h a w _ _ hx r; exact wp_label ⟨β, e, h, hx, r⟩
  | exit i => intro K β e h a w _ _ hx r; exact wp_exit ⟨β, e, h, hx, r⟩
  | ret => intro K β e h a w _ _ hx r; exact wp_ret ⟨β, e, h, hx, r⟩
  | region id ops dr =>
    intro K β e h a w hd hp hx r
    cases dr with
    | false =>
      simp only [den] at hx
      refine wp_region ?_
      have := wopsL_sound (Q := Post D n h0 w0 K) hS (dst_of hd) (fun e' h' β' a' w' hK hR => ⟨β', e', h', hK, hR⟩) (fun c h' a' w' hE hM hD => ⟨e, h', hE, hM, hD⟩) ops.toList 0 e h β a w (fun j => by simp) r hx
      rw [List.range_eq_range']
      simpa using this
    | true =>
      simp only [den] at hx
      refine wp_region_any hS.mix ?_
      exact hp _ _ _ _ h0 w0 β e h a _ hx ⟨r.size, r.nod, r.slot, r.box, r.inj, ⟨r.mv.view, r.mv.keep, r.mv.dom, r.mv.size, r.mv.out⟩⟩ (fun e' h' β' a' w' hK hR => ⟨β', e', h', hK, hR⟩) (fun c h' a' w' hE hM hD => ⟨e, h', hE, hM, hD⟩)
  | seq c1 c2 ih1 ih2 =>
    intro K β e h a w hd hp hx r
    simp only [Code.dstOk, Bool.and_eq_true] at hd
    refine wp_seq (wp_mono (ih1 _ β e h a w hd.1 hp.1 hx r) ?_)
    intro ex a' w' hpost
    cases ex with
    | normal => obtain ⟨β', e', h', hK, hR⟩ := hpost; exact ih2 K β' e' h' a' w' hd.2 hp.2 hK hR
    | exit i => exact hpost
    | ret => exact hpost
    | panic ch => exact hpost
    | goto l => exact hpost
    | outgrown => exact hpost
  | cond c x y ihx ihy =>
    intro K β e h a w hd hp hx r
    simp only [Code.dstOk, Bool.and_eq_true] at hd
    simp only [den] at hx
    split at hx
    · rename_i t ht
      refine wp_cond (r.eval ht) ?_
      rcases sel_split hx with ⟨rfl, hx⟩ | ⟨rfl, hx⟩
      · exact ihx K β e h a w hd.1 hp.1 hx r
      · exact ihy K β e h a w hd.2 hp.2 hx r
    · exact hx.elim
  | block id c ih =>
    intro K β e h a w hd hp hx r
    refine wp_block (wp_mono (ih _ β e h a w hd hp hx r) ?_)
    intro ex a' w' hpost
    cases ex with
    | normal => exact hpost
    | exit i =>
      obtain ⟨β', e', h', hK, hR⟩ := hpost
      simp only [Exit.inBlock]
      by_cases hi : i = id
      · rw [if_pos hi]
        have : Nat.beq i id = true := by rw [hi]; exact Nat.beq_refl id
        simp only [this] at hK
        exact ⟨β', e', h', hK, hR⟩
      · rw [if_neg hi]
        have : Nat.beq i id = false := by
          cases hb : Nat.beq i id with
          | true => exact absurd (Nat.eq_of_beq_eq_true hb) hi
          | false => rfl
        simp only [this] at hK
        exact ⟨β', e', h', hK, hR⟩
    | ret => exact hpost
    | panic ch => exact hpost
    | goto l => exact hpost
    | outgrown => exact hpost
  | loop c ih =>
    intro K β e h a w hd hp hx r
    simp only [den] at hx
    rw [Lp_def] at hx; unfold Lp_ at hx
    obtain ⟨ls, bs, Inv, ⟨k, hk⟩, hstep⟩ := hx
    refine wp_loopN (fun k a w => ∃ β e h, Inv k (ls.map e.s) (bs.map e.b) h ∧ Rel D n h0 w0 β e h a w) k ⟨β, e, h, hk, r⟩ ?_
    rintro k1 a1 w1 ⟨β1, e1, h1, hI, r1⟩
    refine wp_mono (ih _ β1 _ h1 a1 w1 hd hp (hstep k1 _ _ h1 hI) (r1.narrow ls bs)) ?_
    intro ex a' w' hpost
    cases ex with
    | normal => obtain ⟨β', e', h', ⟨m, hm, hI'⟩, hR⟩ := hpost; exact ⟨m, hm, β', e', h', hI', hR⟩
    | exit i => exact hpost
    | ret => exact hpost
    | panic ch => exact hpost
    | goto l => exact hpost
    | outgrown => exact hpost
  | scope c ih =>
    intro K β e h a w hd hp hx r
    refine wp_scope_straight (wp_mono (ih K β e h a w hd hp hx r) ?_)
    intro ex a' w' hpost
    cases ex with
    | goto l => exact hpost.elim
    | _ => exact hpost
  | goto l => intro K β e h a w _ _ hx r; exact hx.elim
  | refuse y => intro K β e h a w _ _ hx r; exact hx.elim
  | rangeFunc f ps as b _ _ => intro K β e h a w _ _ hx r; exact hx.elim
def startEnv (args : List Value) : Env := ⟨fun t => match args[t]? with | some v => .v v | none => .v undef, fun _ => none⟩
def resVals (S : Sig) (e : Env) (h : Heap) : List ResultVar → (List Value → Prop) → Prop
  | [], K => K []
  | .tmp t :: r, K => match e.s t with
    | .v v => resVals S e h r fun vs => K (v :: vs)
    | _ => False
  | .cell t ty :: r, K => match S.ty.find ty with
    | some ti => load ti (e.s t) e h fun s _ _ => match s with
      | .v v => resVals S e h r fun vs => K (v :: vs)
      | _ => False
    | none => False
def oneRes (K : Value → Prop) : List Value → Prop
  | [v] => K v
  | vs => K (.tuple ⟨vs⟩)
def Fin (S : Sig) (res : List ResultVar) (R : Out → Heap → Prop) : Ex → Env → Heap → Prop
  | .normal, e, h => resVals S e h res fun vs => oneRes (fun v => R (.ret v) h) vs
  | .ret, e, h => resVals S e h res fun vs => oneRes (fun v => R (.ret v) h) vs
  | .exit _, _, _ => False
  | .pan c, _, h => R (.pan c) h
theorem start_rel {fn : Func} {args : List Value} (hn : args.length ≤ fn.ntmps) (hv : ∀ b o, h b = some o → w.heap[b]? = some o) :
    Rel [] fn.ntmps h w (fun _ => 0) (startEnv args) h { tmps := args.toArray ++ Array.replicate (fn.ntmps - args.toArray.size) undef, defers := [] } w where
  size := by simp; omega
  nod := rfl
  slot t := by
    simp only [startEnv]
    cases ht : args[t]? with
    | some v =>
      obtain ⟨hlt, hg⟩ := List.getElem?_eq_some_iff.1 ht
      show _ = v
      simp [Array.getD_eq_getD_getElem?, Array.getElem?_append, hlt, hg]
    | none =>
      have hge : args.length ≤ t := by simpa using ht
      show _ = undef
      rw [Array.getD_eq_getD_getElem?, Array.getElem?_append_right (by simpa using hge), Array.getElem?_replicate]
      split <;> rfl
  box t cs hb := by simp [startEnv] at hb
  inj t u ht := by simp [startEnv] at ht
  mv := Moves.refl hv
theorem resVals_sound (hS : SigOk P S) (r : Rel D n h0 w0 β e h a w) : ∀ (res : List ResultVar) (K : List Value → Prop), resVals S e h res K →
    ∃ vs, K vs ∧ (res.mapM (m := Sem) fun
      | .tmp t => pure (a.tmps.getD t undef)
      | .cell x t => do loadVar t (← asAddr (a.tmps.getD x undef))).run P w = .ok vs w
  | [], K, hx => ⟨[], hx, rfl⟩
  | .tmp t :: res, K, hx => by
    simp only [resVals] at hx
    split at hx
    · rename_i v hv
      obtain ⟨vs, h1, h2⟩ := resVals_sound hS r res _ hx
      refine ⟨v :: vs, h1, ?_⟩
      have hs := r.slot t
      rw [hv] at hs
      rw [List.mapM_cons]
      simp only [Sem.run_bind, Sem.run_pure, Result.andThen_ok, h2]
      rw [show a.tmps.getD t undef = v from hs]
    · exact hx.elim
  | .cell t ty :: res, K, hx => by
    simp only [resVals] at hx
    split at hx
    · rename_i ti hti
      obtain ⟨ad, v, g1, g2, g3⟩ := load_spec (x := .tmp t) hS r hti hx
      obtain ⟨vs, h1, h2⟩ := resVals_sound hS r res _ g3
      refine ⟨v :: vs, h1, ?_⟩
      have g1 : a.tmps.getD t undef = .pointer (some ad) := g1
      rw [List.mapM_cons]
      have ga : (asAddr (.pointer (some ad))).run P w = .ok ad w := rfl
      simp only [Sem.run_bind, g1, ga, Sem.run_pure, Result.andThen_ok, g2, h2]
    · exact hx.elim
theorem results_sound (hS : SigOk P S) (r : Rel D n h0 w0 β e h a w) {fn : Func} {R : Out → Heap → Prop} (hx : resVals S e h fn.results.toList fun vs => oneRes (fun v => R (.ret v) h) vs) :
    ∃ v, (results fn a.tmps).run P w = .ok v w ∧ R (.ret v) h := by
  obtain ⟨vs, h1, h2⟩ := resVals_sound hS r _ _ hx
  have hrun : (results fn a.tmps).run P w = .ok (if h : vs.toArray.size = 1 then vs.toArray[0] else .tuple vs.toArray) w := by
    unfold results
    rw [Array.mapM_eq_mapM_toList]
    simp only [Sem.run_bind, Sem.run_map, Sem.run_pure]
    exact (congrArg (fun r : Result (List Value) => (r.andThen fun a w' => Result.ok a.toArray w').andThen fun a w' => Result.ok (if h : a.size = 1 then a[0] else Value.tuple a) w') h2).trans rfl
  refine ⟨_, hrun, ?_⟩
  match vs, h1 with
  | [], h1 => simpa [oneRes] using h1
  | [v], h1 => simpa [oneRes] using h1
  | u :: v :: r, h1 => simpa [oneRes] using h1
theorem calls_of_den (hS : SigOk P S) (F : Fs) {f : FuncId} {fn : Func} {c : Code} {args : List Value} {R : Out → Heap → Prop} (hf : P.funcs[f]? = some fn) (hb : fn.body = some c) (hn : args.length ≤ fn.ntmps)
    (hd : Code.dstOk fn.ntmps c = true) (hp : Code.drawsOk P S F fn.ntmps c) (hx : den P S F c (Fin S fn.results.toList R) (startEnv args) h) : CallsH P f args h R := by
  intro w hv
  refine calls_of_wp hf hb (wp_mono (den_sound hS F c _ _ _ _ _ _ hd hp hx (start_rel hn hv)) ?_)
  intro ex a' w' hpost
  cases ex with
  | normal => obtain ⟨β, e, h', hK, hR⟩ := hpost; obtain ⟨v, h1, h2⟩ := results_sound hS hR hK; exact ⟨hR.nod, v, h1, h', hR.mv, h2⟩
  | ret => obtain ⟨β, e, h', hK, hR⟩ := hpost; obtain ⟨v, h1, h2⟩ := results_sound hS hR hK; exact ⟨hR.nod, v, h1, h', hR.mv, h2⟩
  | exit i => obtain ⟨β, e, h', hK, hR⟩ := hpost; exact hK.elim
  | panic ch => obtain ⟨e, h', hK, hM, hD⟩ := hpost; exact ⟨hD, h', hM, hK⟩
  | goto l => exact hpost.elim
  | outgrown => exact hpost.elim
end Go.Vc
