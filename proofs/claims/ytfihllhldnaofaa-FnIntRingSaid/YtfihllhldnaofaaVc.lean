/- The words of a calculus of weakest preconditions over the model's own code, read by one evaluation: memory is a partial view of the heap, local boxes lie in the frame. -/
import Derived.Calls
import Derived.KernelRfl
namespace Go.Vc
set_option linter.constructorNameAsVariable false

abbrev Heap := Nat → Option Obj
def Heap.set (h : Heap) (b : Nat) (o : Obj) : Heap := fun c => if c = b then some o else h c
def Heap.le (h h' : Heap) : Prop := ∀ b o, h b = some o → h' b = some o

/-- What stands in a temporary: a value, the place 'off' of the local box 't', the row of 'len' that is the whole local box 't', or nothing that may be used. -/
inductive Slot where
  | v (x : Value)
  | l (t off : Nat)
  | r (t len : Nat)
  | x

structure Env where
  s : Nat → Slot
  b : Nat → Option (List Value)

def Env.get (e : Env) : Operand → Slot
  | .tmp t => e.s t
  | .const v => .v v
  | .global g => .v (.pointer (some ⟨g, 0, none⟩))
  | .func f => .v (.func (.func f) #[] #[])
abbrev Bx := Option (Nat × List Value)
def Env.put (e : Env) (d : Option Nat) (x : Slot) (bx : Bx) : Env :=
  ⟨match d with | none => e.s | some d => fun t => if t = d then x else e.s t,
   match bx with | none => e.b | some (d, cs) => fun t => if t = d then some cs else e.b t⟩

/-- What is told of types. -/
inductive TD where
  | bas | num (k : IntKind) | txt | str (fs : List (Nat × TypeId)) | arr (n : Nat) (e : TypeId) | sl (e : TypeId) | ptr (e : TypeId) | ifc | oth
structure TI where
  size : Nat
  bytes : Nat
  zero : List Value
  agg : Bool
  d : TD
inductive Tree (α : Type) where
  | leaf
  | node (l : Tree α) (k : Nat) (v : α) (r : Tree α)
def Tree.find {α : Type} (i : Nat) : Tree α → Option α
  | .leaf => none
  | .node l k v r => match Nat.beq i k with
    | true => some v
    | false => match Nat.blt i k with
      | true => l.find i
      | false => r.find i
structure Sig where
  ty : Tree TI
  lo : Nat
  nf : Nat
/-- What is told of a function: which boxes stay its own, which loads look into these, and in which order a region that draws it is walked. -/
structure Fs where
  L : List Nat := []
  LL : List Nat := []
  plans : List (Nat × List Nat) := []

inductive Out where
  | ret (v : Value)
  | pan (c : List PanicEntry)
inductive Ex where
  | normal
  | exit (id : Nat)
  | ret
  | pan (c : List PanicEntry)

/-- From a world of which 'h' is a view to one of which 'h'' is: no block outside the view is written. -/
structure Moves (h : Heap) (w : World) (h' : Heap) (w' : World) : Prop where
  view : ∀ b o, h' b = some o → w'.heap[b]? = some o
  keep : ∀ b, b < w.heap.size → h b = none → w'.heap[b]? = w.heap[b]?
  dom : ∀ b, h' b ≠ none → h b ≠ none ∨ w.heap.size ≤ b
  size : w.heap.size ≤ w'.heap.size
  out : w'.os = w.os ∧ w'.tape = w.tape ∧ w'.output = w.output

/-- A call of a function, from any world of which 'h' is a view: what it comes to. -/
def CallsH (P : Program) (f : FuncId) (args : List Value) (h : Heap) (R : Out → Heap → Prop) : Prop :=
  ∀ w : World, (∀ b o, h b = some o → w.heap[b]? = some o) →
    Calls P f args.toArray w fun e w' => ∃ h' : Heap, Moves h w h' w' ∧
      match e with
      | .returned v => R (.ret v) h'
      | .panicked c => R (.pan c) h'
      | .outgrown => False

/-! ### The stops -/
@[irreducible] def Call (P : Program) (f : FuncId) (args : List Value) (h : Heap) (K : Value → Heap → Prop) (E : List PanicEntry → Heap → Prop) : Prop :=
  CallsH P f args h fun o h' => match o with | .ret v => K v h' | .pan c => E c h'
/-- A call that leaves the view as it was, or adds to it. -/
@[irreducible] def CallX (P : Program) (f : FuncId) (args : List Value) (h : Heap) (K : Value → Heap → Prop) : Prop :=
  CallsH P f args h fun o h' => match o with | .ret v => h.le h' ∧ K v h' | .pan _ => False
@[irreducible] def Ob (p K : Prop) : Prop := p ∧ K
@[irreducible] def Ar (k : IntKind) (x : Int) (K : Int → Prop) : Prop := K (k.wrap x)
@[irreducible] def New (h : Heap) (cs : List Value) (t : TypeId) (K : Nat → Heap → Prop) : Prop :=
  ∀ b, h b = none → K b (h.set b (.cells cs.toArray t))
/-- What stands at 'off' of a row of cells. -/
def rd (h : Heap) (b off : Nat) : Option Value := match h b with
  | some (.cells c _ _) => c[off]?
  | _ => none
def rdn (h : Heap) (b : Nat) : Nat → Nat → Option (List Value)
  | _, 0 => some []
  | off, n + 1 => match rd h b off, rdn h b (off + 1) n with
    | some v, some r => some (v :: r)
    | _, _ => none
@[irreducible] def Ld (h : Heap) (b off : Nat) (K : Value → Prop) : Prop := ∃ v, rd h b off = some v ∧ K v
@[irreducible] def LdN (h : Heap) (b off n : Nat) (K : List Value → Prop) : Prop := ∃ vs, rdn h b off n = some vs ∧ K vs
def wrl : List Value → Nat → Value → List Value
  | [], _, _ => []
  | _ :: r, 0, v => v :: r
  | a :: r, n + 1, v => a :: wrl r n v
def wrls (cs : List Value) (off : Nat) : List Value → List Value
  | [] => cs
  | v :: r => wrls (wrl cs off v) (off + 1) r
@[irreducible] def St (h : Heap) (b off : Nat) (vs : List Value) (K : Heap → Prop) : Prop :=
  ∃ cs t, h b = some (.cells cs t (0, 0)) ∧ off + vs.length ≤ cs.size ∧ K (h.set b (.cells (wrls cs.toList off vs).toArray t (0, 0)))
def take : Nat → List Value → Option (List Value)
  | 0, _ => some []
  | _ + 1, [] => none
  | n + 1, a :: r => match take n r with
    | some t => some (a :: t)
    | none => none
def drop : Nat → List Value → List Value
  | 0, l => l
  | _ + 1, [] => []
  | n + 1, _ :: r => drop n r
def forceL : List Value → (List Value → Prop) → Prop
  | [], K => K []
  | a :: r, K => forceL r fun r' => K (a :: r')
def fillAt (place : Nat → Option Nat) (cs : List Value) : List (Nat × List Value) → Option (List Value)
  | [] => some cs
  | (i, vs) :: r => match place i with
    | some off => match (off + vs.length).ble cs.length with
      | true => fillAt place (wrls cs off vs) r
      | false => none
    | none => none
/-- An operation for which this page has no word: what the model says of it. -/
@[irreducible] def Raw (P : Program) (o : Oper) (e : Env) (h : Heap) (K : Value → Heap → Prop) : Prop :=
  (∀ x ∈ o.op.operands, ∃ v, e.get x = .v v) ∧ ∀ ρ : Operand → Value, (∀ x ∈ o.op.operands, e.get x = .v (ρ x)) → ∀ w : World, (∀ b o, h b = some o → w.heap[b]? = some o) →
    ∃ v w' h', ((execOp ρ o).run P w = .ok (.value v) w' ∨ (execOp ρ o).run P w = .ok .skip w' ∧ v = undef) ∧ Moves h w h' w' ∧ K v h'
def isCell : Value → Bool
  | .agg _ => false
  | .tuple _ => false
  | _ => true
def cellsOk : List Value → Bool
  | [] => true
  | v :: r => match isCell v with
    | true => cellsOk r
    | false => false
/-- append: in place where there is room, else a new row of some capacity. -/
@[irreducible] def App (bytes size : Nat) (zero : List Value) (elem : TypeId) (h : Heap) (a : Option Addr) (n cap m : Nat) (vs : List Value) (K : Value → Heap → Prop) : Prop :=
  (n + m ≤ cap → cellsOk vs = true ∧ match a with
    | some ⟨b, off, none⟩ => ∃ cs t, h b = some (.cells cs t (0, 0)) ∧ off + n * size + vs.length ≤ cs.size ∧
        K (.slice a (n + m) cap) (h.set b (.cells (wrls cs.toList (off + n * size) vs).toArray t (0, 0)))
    | some _ => False
    | none => vs = [] ∧ K (.slice none (n + m) cap) h) ∧
  (cap < n + m → (n + m) * bytes ≤ 2 ^ 44 ∧ n + m ≤ 2 ^ 44 ∧ ∃ old, (match a with
    | some ⟨b, off, none⟩ => rdn h b off (n * size) = some old
    | some _ => False
    | none => n = 0 ∧ old = []) ∧
    ∀ b c, h b = none → n + m ≤ c → K (.slice (some ⟨b, 0, none⟩) (n + m) c) (h.set b (.cells (old ++ vs ++ (List.replicate (c - (n + m)) zero).flatten).toArray elem)))
/-- A loop: what holds at each round's head of the slots and boxes that it names, and a number that every round lowers. -/
def slotIn (ls : List Nat) (vs : List Slot) (t : Nat) : Slot :=
  match ls, vs with
  | i :: ls, v :: vs => if t = i then v else slotIn ls vs t
  | _, _ => .x
def boxIn (bs : List Nat) (cs : List (Option (List Value))) (t : Nat) : Option (List Value) :=
  match bs, cs with
  | i :: bs, c :: cs => if t = i then c else boxIn bs cs t
  | _, _ => none
def Slot.clean (bs : List Nat) : Slot → Slot
  | .l t off => if bs.contains t then .l t off else .x
  | .r t n => if bs.contains t then .r t n else .x
  | s => s
def envIn (ls bs : List Nat) (vs : List Slot) (cs : List (Option (List Value))) : Env := ⟨fun t => (slotIn ls vs t).clean bs, boxIn bs cs⟩
@[irreducible] def Lp (body : (Ex → Env → Heap → Prop) → Env → Heap → Prop) (K : Ex → Env → Heap → Prop) (e : Env) (h : Heap) : Prop :=
  ∃ (ls bs : List Nat) (Inv : Nat → List Slot → List (Option (List Value)) → Heap → Prop), (∃ n, Inv n (ls.map e.s) (bs.map e.b) h) ∧ ∀ n vs cs h, Inv n vs cs h →
    body (fun x e' h' => match x with | .normal => ∃ m, m < n ∧ Inv m (ls.map e'.s) (bs.map e'.b) h' | .exit i => K (.exit i) e' h' | .ret => K .ret e' h' | .pan c => K (.pan c) e' h') (envIn ls bs vs cs) h

/-! ### One operation -/
/-- Where the way parts. -/
def sel (b : Bool) (t f : Prop) : Prop := @Bool.rec (fun _ => Prop) f t b
def rdBox (e : Env) (t off n : Nat) : Option (List Value) := match e.b t with
  | some cs => take n (drop off cs)
  | none => none
def load (ti : TI) (x : Slot) (e : Env) (h : Heap) (K : Slot → Bx → Heap → Prop) : Prop :=
  match x with
  | .l t off => match rdBox e t off ti.size with
    | some vs => match ti.agg with
      | true => forceL vs fun vs => K (.v (.agg ⟨vs⟩)) none h
      | false => match vs with
        | [v] => K (.v v) none h
        | _ => False
    | none => False
  | .v (.pointer (some ⟨b, off, none⟩)) => match ti.agg with
    | true => LdN h b off ti.size fun vs => K (.v (.agg ⟨vs⟩)) none h
    | false => match ti.size with
      | 1 => Ld h b off fun v => K (.v v) none h
      | _ => False
  | _ => False
def cellsOf : Value → List Value
  | .agg cs => cs.toList
  | v => [v]
/-- The cells of a value of a type: those of a struct or an array, or itself. -/
def cellsAt (ti : TI) (v : Value) (K : List Value → Prop) : Prop :=
  match ti.agg with
  | true => match v with
    | .agg cs => forceL cs.toList fun vs => match vs.length.beq ti.size with
      | true => K vs
      | false => False
    | _ => False
  | false => match isCell v with
    | true => K [v]
    | false => False
def store (ti : TI) (x : Slot) (v : Value) (e : Env) (h : Heap) (K : Slot → Bx → Heap → Prop) : Prop :=
  cellsAt ti v fun vs => match cellsOk vs with
  | false => False
  | true => match x with
  | .l t off => match e.b t with
    | some cs => match (off + vs.length).ble cs.length with
      | true => K (.v undef) (some (t, wrls cs off vs)) h
      | false => False
    | none => False
  | .v (.pointer (some ⟨b, off, none⟩)) => St h b off vs fun h' => K (.v undef) none h'
  | _ => False
def vals (e : Env) : List Operand → (List Value → Prop) → Prop
  | [], K => K []
  | o :: r, K => match e.get o with
    | .v x => vals e r fun r' => K (x :: r')
    | _ => False
def parts (e : Env) (tyOf : Nat → Option TI) : List (Nat × Operand) → (List (Nat × List Value) → Prop) → Prop
  | [], K => K []
  | (i, o) :: r, K => match e.get o, tyOf i with
    | .v x, some ti => cellsAt ti x fun vs => parts e tyOf r fun r' => K ((i, vs) :: r')
    | _, _ => False
def sameKind : IntKind → IntKind → Bool
  | .i64, .i64 => true
  | .u8, .u8 => true
  | .i8, .i8 => true
  | .u64, .u64 => true
  | .i32, .i32 => true
  | .u32, .u32 => true
  | _, _ => false
def mx (x y : Int) : Int := if x < y then y else x
def mn (x y : Int) : Int := if y < x then y else x
def bits2 (op : BinOp) (k : IntKind) (x y : Int) : Int :=
  let a := BitVec.ofInt k.bits x
  let b := BitVec.ofInt k.bits y
  match op with
  | .and => k.wrap (a &&& b).toNat
  | .or => k.wrap (a ||| b).toNat
  | .xor => k.wrap (a ^^^ b).toNat
  | _ => k.wrap (a &&& ~~~b).toNat
def binInt (op : BinOp) (k : IntKind) (a b : Int) (K : Value → Prop) (raw : Prop) : Prop :=
  match op with
  | .add => Ar k (a + b) fun n => K (.int k n)
  | .sub => Ar k (a - b) fun n => K (.int k n)
  | .mul => Ar k (a * b) fun n => K (.int k n)
  | .quo => Ob (b ≠ 0) (Ar k (a.tdiv b) fun n => K (.int k n))
  | .rem => Ob (b ≠ 0) (K (.int k (a.tmod b)))
  | .eql => K (.bool (decide (a = b)))
  | .neq => K (.bool (!decide (a = b)))
  | .lss => K (.bool (decide (a < b)))
  | .leq => K (.bool (decide (a ≤ b)))
  | .gtr => K (.bool (decide (b < a)))
  | .geq => K (.bool (decide (b ≤ a)))
  | .and => K (.int k (bits2 .and k a b))
  | .or => K (.int k (bits2 .or k a b))
  | .xor => K (.int k (bits2 .xor k a b))
  | .andNot => K (.int k (bits2 .andNot k a b))
  | _ => raw
/-- A part of a row: at the end of the capacity the address stays. -/
@[irreducible] def Sub (a : Option Addr) (cap l size : Nat) (K : Option Addr → Prop) : Prop :=
  ∀ oa, (cap ≠ l → oa = a.map fun a => a.add (l * size)) → (cap = l → oa = a) → K oa
def sliceLo (size : Nat) (a : Option Addr) (cap : Nat) (lo : Option Slot) (h : Nat) (K : Value → Prop) : Prop :=
  match lo with
  | none => K (.slice a h cap)
  | some (.v (.int _ l)) => Ob (0 ≤ l ∧ l ≤ h) (Sub a cap l.toNat size fun oa => K (.slice oa (h - l.toNat) (cap - l.toNat)))
  | some _ => False
def sliceOf (size : Nat) (a : Option Addr) (n cap : Nat) (lo hi : Option Slot) (K : Value → Prop) : Prop :=
  match hi with
  | none => sliceLo size a cap lo n K
  | some (.v (.int _ x)) => Ob (0 ≤ x ∧ x ≤ cap) (sliceLo size a cap lo x.toNat K)
  | some _ => False
def memN (d : Nat) : List Nat → Bool
  | [] => false
  | i :: r => match Nat.beq d i with
    | true => true
    | false => memN d r
def isLocal (F : Fs) : Option Nat → Option Nat
  | some d => match memN d F.L with
    | true => some d
    | false => none
  | none => none
/-- A new variable: a local box, or a block. -/
def newVar (F : Fs) (t : TypeId) (d : Option Nat) (cs : List Value) (e : Env) (h : Heap) (K : Slot → Bx → Heap → Prop) : Prop :=
  match isLocal F d with
  | some d => match e.b d with
    | none => forceL cs fun cs => K (.l d 0) (some (d, cs)) h
    | some _ => False
  | none => New h cs t fun b h' => K (.v (.pointer (some ⟨b, 0, none⟩))) none h'
def newRow (F : Fs) (t : TypeId) (d : Option Nat) (n : Nat) (cs : List Value) (e : Env) (h : Heap) (K : Slot → Bx → Heap → Prop) : Prop :=
  match isLocal F d with
  | some d => match e.b d with
    | none => forceL cs fun cs => K (.r d n) (some (d, cs)) h
    | some _ => False
  | none => New h cs t fun b h' => K (.v (.slice (some ⟨b, 0, none⟩) n n)) none h'
def places (S : Sig) (d : TD) : Option ((Nat → Option Nat) × (Nat → Option TI)) :=
  match d with
  | .str fs => some ((fun i => match fs[i]? with | some (o, _) => some o | none => none), (fun i => match fs[i]? with | some (_, t) => S.ty.find t | none => none))
  | .arr n el => some ((fun i => match S.ty.find el with | some ti => (match Nat.blt i n with | true => some (i * ti.size) | false => none) | none => none), (fun _ => S.ty.find el))
  | _ => none
def reps (n : Nat) (zero : List Value) : List Value := match n with
  | 0 => []
  | n + 1 => zero ++ reps n zero
def nth (ops : List Oper) (i : Nat) : Option Oper := match ops, i with
  | [], _ => none
  | o :: _, 0 => some o
  | _ :: r, i + 1 => nth r i
def lenOf (x : Slot) : Option Nat := match x with
  | .v (.slice _ n _) => some n
  | .v (.string s) => some s.size
  | .r _ n => some n
  | _ => none
def optGet (e : Env) : Option Operand → Option Slot
  | none => none
  | some o => some (e.get o)
def pickNat (k : Nat) : Option (List Value) → Option Value := fun vs => match vs with
  | some l => match k, l with
    | 0, v :: _ => some v
    | _, _ => none
  | none => none
def bld (S : Sig) (t : TypeId) (ps : List (Nat × Operand)) (e : Env) (K : Value → Prop) : Prop :=
  match S.ty.find t with
  | some ti => match places S ti.d with
    | none => False
    | some (pl, tyOf) => parts e tyOf ps fun vs => match fillAt pl ti.zero vs with
      | some cs => forceL cs fun cs => K (.agg ⟨cs⟩)
      | none => False
  | none => False
def appArg (e : Env) (size : Nat) (x : Slot) (h : Heap) (K : Nat → List Value → Prop) : Prop :=
  match x with
  | .r t n => match e.b t with
    | some cs => match cs.length.beq (n * size) with
      | true => K n cs
      | false => False
    | none => False
  | .v (.slice (some ⟨b, off, none⟩) n _) => LdN h b off (n * size) fun vs => K n vs
  | .v (.slice none n _) => K n []
  | _ => False
def callFn (P : Program) (S : Sig) (x : Bool) (f : Value) (args : List Value) (h : Heap) (K : Slot → Bx → Heap → Prop) (E : List PanicEntry → Heap → Prop) : Prop :=
  match f with
  | .func (.func g) first captured => match Nat.ble S.lo g, Nat.blt g S.nf with
    | true, true => forceL (first.toList ++ args ++ captured.toList) fun args => match x with
      | true => CallX P g args h fun v h' => K (.v v) none h'
      | false => Call P g args h (fun v h' => K (.v v) none h') E
    | _, _ => False
  | _ => False
/-- Operations with effects of their own, or of which this page has no word. -/
def isW : Op → Bool
  | .move _ | .assign _ | .pick .. | .alloc _ | .box .. | .build .. | .buildSlice .. | .load .. | .nilCheck _ | .binOp .. | .unOp .. | .convert .. | .makeInterface .. | .makeFunc .. | .slice .. | .fieldAddr .. | .field .. | .indexAddr .. | .index .. | .extract .. | .makeSlice .. => false
  | .call { callee := .value _, .. } => false
  | .call { callee := .builtin .len, .. } => false
  | .call { callee := .builtin .append, .. } => false
  | .call { callee := .builtin .max, .. } => false
  | .call { callee := .builtin .min, .. } => false
  | .call { callee := .builtin .cap, .. } => false
  | _ => true
def inL (l : List Nat) : Option Nat → Bool
  | some d => memN d l
  | none => false
/-- One operation. 'x': a call adds to the view or leaves it. -/
def exec (P : Program) (S : Sig) (F : Fs) (x : Bool) (o : Oper) (e : Env) (h : Heap) (K : Slot → Bx → Heap → Prop) (E : List PanicEntry → Heap → Prop) : Prop :=
  let raw : Prop := match x && !isW o.op with
    | true => False
    | false => Raw P o e h fun v h' => K (.v v) none h'
  match o.op with
  | .move a | .assign a => match e.get a with
    | .x => False
    | s => K s none h
  | .pick c a b => match e.get c with
    | .v (.bool t) => sel t (match e.get a with
        | .x => False
        | s => K s none h) (match e.get b with
        | .x => False
        | s => K s none h)
    | _ => False
  | .alloc t => match S.ty.find t with
    | some ti => newVar F t o.dst ti.zero e h K
    | none => False
  | .box t a => match e.get a, S.ty.find t with
    | .v v, some ti => cellsAt ti v fun cs => newVar F t o.dst cs e h K
    | _, _ => False
  | .build t ps => bld S t ps.toList e fun v => K (.v v) none h
  | .buildSlice t n ps => match S.ty.find t with
    | some ⟨_, _, _, _, .sl el⟩ => match S.ty.find el with
      | some ti => match (n * ti.size).ble 16777216 with
        | true => parts e (fun _ => some ti) ps.toList fun vs => match fillAt (fun i => some (i * ti.size)) (reps n ti.zero) vs with
          | some cs => newRow F el o.dst n cs e h K
          | none => False
        | false => False
      | none => False
    | _ => False
  | .load t a => match S.ty.find t with
    | some ti => match inL F.LL o.dst with
      | true => match e.get a with
        | .l u off => load ti (.l u off) e h K
        | _ => False
      | false => load ti (e.get a) e h K
    | none => False
  | .store t a b => match S.ty.find t, e.get b with
    | some ti, .v v => store ti (e.get a) v e h K
    | _, _ => False
  | .nilCheck a => match e.get a with
    | .l t off => K (.l t off) none h
    | .v (.pointer (some a)) => K (.v (.pointer (some a))) none h
    | .v (.iface t v) => K (.v (.iface t v)) none h
    | .v (.func (.func g) a b) => K (.v (.func (.func g) a b)) none h
    | _ => raw
  | .binOp op t a b _ => match e.get a, e.get b with
    | .v (.int k m), .v (.int k' n) => match sameKind k k' with
      | true => binInt op k m n (fun v => K (.v v) none h) raw
      | false => raw
    | .v (.bool x), .v (.bool y) => match S.ty.find t with
      | some ⟨_, _, _, _, .bas⟩ => match op with
        | .eql => K (.v (.bool (x == y))) none h
        | .neq => K (.v (.bool (x != y))) none h
        | _ => raw
      | _ => raw
    | _, _ => raw
  | .unOp op _ a => match op, e.get a with
    | .not, .v (.bool b) => K (.v (.bool (!b))) none h
    | .neg, .v (.int k n) => Ar k (0 - n) fun n => K (.v (.int k n)) none h
    | _, _ => raw
  | .convert s t a => match S.ty.find s, S.ty.find t, e.get a with
    | some _, some tj, .v (.int _ n) => match tj.d with
      | .num k => Ar k n fun n => K (.v (.int k n)) none h
      | _ => raw
    | _, _, _ => raw
  | .makeInterface t a => match S.ty.find t, e.get a with
    | some ti, .v v => match ti.d with
      | .ifc => False
      | _ => K (.v (.iface t v)) none h
    | _, _ => False
  | .makeFunc f fs cs => vals e fs.toList fun fs => vals e cs.toList fun cs => K (.v (.func f ⟨fs⟩ ⟨cs⟩)) none h
  | .slice t a lo hi mx => match S.ty.find t, mx with
    | some ⟨_, _, _, _, .sl el⟩, none => match S.ty.find el, e.get a with
      | some ti, .v (.slice p n cap) => sliceOf ti.size p n cap (optGet e lo) (optGet e hi) fun v => K (.v v) none h
      | _, _ => raw
    | _, _ => raw
  | .fieldAddr t a i => match S.ty.find t with
    | some ⟨_, _, _, _, .str fs⟩ => match fs[i]? with
      | some (k, _) => match e.get a with
        | .l u off => K (.l u (off + k)) none h
        | .v (.pointer (some ⟨b, off, none⟩)) => K (.v (.pointer (some ⟨b, off + k, none⟩))) none h
        | _ => False
      | none => False
    | _ => False
  | .field t a i => match S.ty.find t with
    | some ⟨_, _, _, _, .str fs⟩ => match fs[i]? with
      | some (k, u) => match e.get a, S.ty.find u with
        | .v (.agg cs), some ti => match take ti.size (drop k cs.toList) with
          | some vs => match ti.agg with
            | true => forceL vs fun vs => K (.v (.agg ⟨vs⟩)) none h
            | false => match vs with
              | [v] => K (.v v) none h
              | _ => False
          | none => False
        | _, _ => False
      | none => False
    | _ => False
  | .indexAddr t a i => match e.get i with
    | .v (.int _ i) => match S.ty.find t with
      | some ⟨_, _, _, _, .sl el⟩ => match S.ty.find el, e.get a with
        | some ti, .v (.slice (some ⟨b, off, none⟩) n _) => Ob (0 ≤ i ∧ i < n) (K (.v (.pointer (some ⟨b, off + i.toNat * ti.size, none⟩))) none h)
        | some ti, .r u n => Ob (0 ≤ i ∧ i < n) (K (.l u (i.toNat * ti.size)) none h)
        | _, _ => False
      | some ⟨_, _, _, _, .arr n el⟩ => match S.ty.find el, e.get a with
        | some ti, .v (.pointer (some ⟨b, off, none⟩)) => Ob (0 ≤ i ∧ i < n) (K (.v (.pointer (some ⟨b, off + i.toNat * ti.size, none⟩))) none h)
        | some ti, .l u off => Ob (0 ≤ i ∧ i < n) (K (.l u (off + i.toNat * ti.size)) none h)
        | _, _ => False
      | _ => False
    | _ => False
  | .index t a i => match e.get a, e.get i with
    | .v (.string s), .v (.int _ i) => match S.ty.find t with
      | some ⟨_, _, _, _, .txt⟩ => Ob (0 ≤ i ∧ i < s.size) (K (.v (.int .u8 ((s.data.toList.getD i.toNat 0).toNat : Nat))) none h)
      | _ => raw
    | _, _ => raw
  | .extract a i => match e.get a with
    | .v (.tuple vs) => match pickNat 0 (take 1 (drop i vs.toList)) with
      | some v => K (.v v) none h
      | none => False
    | _ => False
  | .makeSlice t n c => match S.ty.find t with
    | some ⟨_, _, _, _, .sl el⟩ => match S.ty.find el, e.get n, e.get c with
      | some ti, .v (.int .i64 n), .v (.int .i64 c) => Ob (n = c ∧ 0 ≤ n ∧ n * ti.bytes ≤ 2 ^ 44 ∧ n ≤ 2 ^ 44) (New h (List.replicate n.toNat ti.zero).flatten el fun b h' => K (.v (.slice (some ⟨b, 0, none⟩) n.toNat n.toNat)) none h')
      | _, _, _ => False
    | _ => False
  | .call { callee := .value f, args := args, .. } => match e.get f with
    | .v f => vals e args.toList fun args => callFn P S x f args h K E
    | _ => False
  | .call { callee := .builtin .len, args := args, argTypes := ts } => match args.toList with
    | [a] => match e.get a with
      | .v (.slice _ n _) => match (ts.toList.head?).bind S.ty.find with
        | some ⟨_, _, _, _, .sl _⟩ => K (.v (.int .i64 n)) none h
        | _ => False
      | .r _ n => match (ts.toList.head?).bind S.ty.find with
        | some ⟨_, _, _, _, .sl _⟩ => K (.v (.int .i64 n)) none h
        | _ => False
      | _ => raw
    | _ => False
  | .call { callee := .builtin .max, args := args, .. } => match args.toList with
    | [a, b] => match e.get a, e.get b with
      | .v (.int k x), .v (.int k' y) => match sameKind k k' with
        | true => K (.v (.int k (mx x y))) none h
        | false => raw
      | _, _ => raw
    | _ => raw
  | .call { callee := .builtin .min, args := args, .. } => match args.toList with
    | [a, b] => match e.get a, e.get b with
      | .v (.int k x), .v (.int k' y) => match sameKind k k' with
        | true => K (.v (.int k (mn x y))) none h
        | false => raw
      | _, _ => raw
    | _ => raw
  | .call { callee := .builtin .cap, args := args, argTypes := ts } => match args.toList with
    | [a] => match e.get a with
      | .v (.slice _ _ c) => match (ts.toList.head?).bind S.ty.find with
        | some ⟨_, _, _, _, .sl _⟩ => K (.v (.int .i64 c)) none h
        | _ => False
      | _ => raw
    | _ => False
  | .call { callee := .builtin .append, args := args, argTypes := ts } => match args.toList, ts.toList with
    | [a, y], [t, u] => match S.ty.find t, S.ty.find u with
      | some ⟨_, _, _, _, .sl el⟩, some ⟨_, _, _, _, .sl _⟩ => match S.ty.find el with
        | some ti => match e.get a with
          | .v (.slice p n cap) => appArg e ti.size (e.get y) h fun m vs => App ti.bytes ti.size ti.zero el h p n cap m vs fun v h' => K (.v v) none h'
          | _ => False
        | none => False
      | _, _ => False
    | _, _ => False
  | .panic a => match e.get a with
    | .v (.iface t v) => E [{ v := .iface t v, recovered := false }] h
    | _ => False
  | _ => raw

/-! ### A region -/
def guardOf (ops : List Oper) (g : Option (Nat × Bool)) : Option (Option Nat × Bool) := match g with
  | none => none
  | some (j, w) => match nth ops j with
    | some o => some (o.dst, w)
    | none => some (none, w)
/-- One operation of a region, under its guard. A truth that is no numeral parts the way, and is known from then on. -/
def oneOp (P : Program) (S : Sig) (F : Fs) (x : Bool) (all : List Oper) (o : Oper) (e : Env) (h : Heap) (K : Env → Heap → Prop) (E : List PanicEntry → Heap → Prop) : Prop :=
  let run (e : Env) : Prop := exec P S F x o e h (fun s bx h' => K (e.put o.dst s bx) h') E
  let skip (e : Env) : Prop := K (e.put o.dst (.v undef) none) h
  match guardOf all o.guard with
  | none => run e
  | some (none, _) => skip e
  | some (some d, w) => match e.s d with
    | .v (.bool b) => sel b
      (match w with
        | true => run (e.put (some d) (.v (.bool true)) none)
        | false => skip (e.put (some d) (.v (.bool true)) none))
      (match w with
        | true => skip (e.put (some d) (.v (.bool false)) none)
        | false => run (e.put (some d) (.v (.bool false)) none))
    | .v (.tuple _) => skip e
    | _ => False
def wops (P : Program) (S : Sig) (F : Fs) (x : Bool) (all : List Oper) (K : Env → Heap → Prop) (E : List PanicEntry → Heap → Prop) : List Nat → Env → Heap → Prop
  | [], e, h => K e h
  | i :: r, e, h => match nth all i with
    | some o => oneOp P S F x all o e h (fun e' h' => wops P S F x all K E r e' h') E
    | none => False
def wopsL (P : Program) (S : Sig) (F : Fs) (all : List Oper) (K : Env → Heap → Prop) (E : List PanicEntry → Heap → Prop) : List Oper → Env → Heap → Prop
  | [], e, h => K e h
  | o :: r, e, h => oneOp P S F false all o e h (fun e' h' => wopsL P S F all K E r e' h') E
def planOf (id : Nat) : List (Nat × List Nat) → Option (List Nat)
  | [] => none
  | (i, p) :: r => match Nat.beq id i with
    | true => some p
    | false => planOf id r

/-! ### The code -/
def den (P : Program) (S : Sig) (F : Fs) : Code → (Ex → Env → Heap → Prop) → Env → Heap → Prop
  | .skip, K, e, h => K .normal e h
  | .label _, K, e, h => K .normal e h
  | .region id ops dr, K, e, h => match dr with
    | false => wopsL P S F ops.toList (K .normal) (fun c h' => K (.pan c) e h') ops.toList e h
    | true => match planOf id F.plans with
      | some p => wops P S F true ops.toList (K .normal) (fun c h' => K (.pan c) e h') p e h
      | none => False
  | .seq a b, K, e, h => den P S F a (fun x e' h' => match x with | .normal => den P S F b K e' h' | .exit i => K (.exit i) e' h' | .ret => K .ret e' h' | .pan c => K (.pan c) e' h') e h
  | .cond c a b, K, e, h => match e.get c with
    | .v (.bool t) => sel t (den P S F a K e h) (den P S F b K e h)
    | _ => False
  | .block id c, K, e, h => den P S F c (fun x e' h' => match x with
    | .normal => K .normal e' h'
    | .exit i => match Nat.beq i id with
      | true => K .normal e' h'
      | false => K (.exit i) e' h'
    | .ret => K .ret e' h'
    | .pan c => K (.pan c) e' h') e h
  | .loop c, K, e, h => Lp (fun K e h => den P S F c K e h) K e h
  | .exit i, K, e, h => K (.exit i) e h
  | .ret, K, e, h => K .ret e h
  | .scope c, K, e, h => den P S F c K e h
  | _, _, _, _ => False

end Go.Vc
