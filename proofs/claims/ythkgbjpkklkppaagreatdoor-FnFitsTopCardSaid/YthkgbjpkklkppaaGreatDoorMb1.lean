/- Part 1 of the lemmas on which the law rests: what functions of the program and of the reference do; no conditions but those that each lemma states. -/
import Derived.Calls
import Derived.KernelRfl
import Derived.Laws.Sem
import Derived.Deep.Quiet
import Derived.Scope
import Derived.Orders
set_option linter.unusedSimpArgs false
set_option linter.unusedVariables false
namespace Go
theorem O {p:Prop} (h:p:=by omega):p:=h
theorem Z {p:Prop} (h:p:=by simp):p:=h
end Go
namespace Go.Vc
set_option linter.constructorNameAsVariable false
abbrev Heap:=Nat->Option Obj
def Heap.set (h:Heap) (b:Nat) (o:Obj):Heap:=λc=>if c=b then some o else h c
def Heap.le (h a:Heap):Prop:=∀ b o,h b=some o->a b=some o
inductive Slot where
 | v (x:Value)
 | l (t off:Nat)
 | r (t len:Nat)
 | x
structure Env where
 s:Nat->Slot
 b:Nat->Option (List Value)
def Env.get (e:Env):Operand->Slot
 | .tmp t=>e.s t
 | .const v=>.v v
 | .global g=>.v (.pointer (some ⟨g,0,none⟩))
 | .func f=>.v (.func (.func f) #[] #[])
abbrev Bx:=Option (Nat × List Value)
def Env.put (e:Env) (d:Option Nat) (x:Slot) (a:Bx):Env :=
 ⟨match d with|none=>e.s|some d=>λt=>if t=d then x else e.s t,
  match a with|none=>e.b|some (d,cs)=>λt=>if t=d then some cs else e.b t⟩
inductive TD where
 | Po|num (k:IntKind)|Ln|str (fs:List (Nat × TypeId))|arr (n:Nat) (e:TypeId)|sl (e:TypeId)|ptr (e:TypeId)|Dt|cn
structure TI where
 size:Nat
 bytes:Nat
 zero:List Value
 agg:Bool
 d:TD
inductive Tree (α:Type) where
 | leaf
 | node (l:Tree α) (k:Nat) (v:α) (r:Tree α)
def Tree.find {a:Type} (i:Nat):Tree a->Option a
 | .leaf=>none
 | .node l k v r=>match Nat.beq i k with
  | true=>some v
  | false=>match Nat.blt i k with
   | true=>l.find i
   | false=>r.find i
structure lD where
 ty:Tree TI
 lo:Nat
 nf:Nat
 OB:Nat:=0
def lD.lt (S:lD) (g:Nat):Bool:=match Nat.beq g S.OB with
 | true=>false
 | false=>Nat.blt g S.nf
theorem lD.Im {S:lD} {g:Nat} (h:S.lt g=true):g < S.nf/\g≠S.OB:=by
 unfold lD.lt at h;split at h
 ·cases h
 rename_i a;refine⟨by simp[Nat.blt]at h;omega,λe=>?_⟩;rw[e]at a;simp at a
inductive PT where
 | nil
 | kA
 | one (i:Nat) (r:PT)
 | alt (i:Nat) (t r:PT)
structure Fs where
 L:List Nat:=[]
 LL:List Nat:=[]
 cq:List (Nat × List Nat):=[]
 trees:List (Nat × PT):=[]
 M:List Nat:=[]
inductive Out where
 | ret (v:Value)
 | nT (c:List PanicEntry)
inductive Ex where
 | normal
 | exit (id:Nat)
 | ret
 | nT (c:List PanicEntry)
structure cQ (h:Heap) (w:World) (h':Heap) (w':World):Prop where
 view:∀ b o,h' b=some o->w'.heap[b]? = some o
 aK:∀ b,b < w.heap.size->h b=none->w'.heap[b]? = w.heap[b]?
 sB:∀ b,h' b≠none->h b≠none\/w.heap.size<=b
 size:w.heap.size<=w'.heap.size
 fz:∀(b:Nat) (cs:Array Value) (t:TypeId) (z:Nat × Nat),w'.heap[b]? = some (Obj.cells cs t z)->z=(0,0)\/w.heap[b]? = some (Obj.cells cs t z)
 out:w'.os=w.os/\w'.tape=w.tape/\w'.output=w.output
def eY (P:Program) (f:FuncId) (args:List Value) (h:Heap) (R:Out->Heap->Prop):Prop :=
 ∀ w:World,(∀ b o,h b=some o->w.heap[b]? = some o) ->
  Calls P f args.toArray w λe d=>∃ a:Heap,cQ h w a d /\
   match e with
   | .returned v=>R (.ret v) a
   | .panicked c=>R (.nT c) a
   | .outgrown=>False
def xM (P:Program) (f:FuncId) (args:List Value) (h:Heap) (K:Value->Heap->Prop) (E:List PanicEntry->Heap->Prop):Prop :=
 eY P f args h λo a=>match o with | .ret v=>K v a | .nT c=>E c a
structure Call (P:Program) (f:FuncId) (args:List Value) (h:Heap) (K:Value->Heap->Prop) (E:List PanicEntry->Heap->Prop):Prop where
 run:xM P f args h K E
theorem sU:Call=xM:=by
 funext _ _ _ _ _ _;exact propext ⟨λh=>h.run,λh=>⟨h⟩⟩
def sV (P:Program) (f:FuncId) (args:List Value) (h:Heap) (K:Value->Heap->Prop) (E:List PanicEntry->Heap->Prop):Prop :=
 eY P f args h λo a=>match o with | .ret v=>h.le a/\K v a | .nT c=>E c a
structure gD (P:Program) (f:FuncId) (args:List Value) (h:Heap) (K:Value->Heap->Prop) (E:List PanicEntry->Heap->Prop):Prop where
 run:sV P f args h K E
theorem qC:gD=sV:=by
 funext _ _ _ _ _ _;exact propext ⟨λh=>h.run,λh=>⟨h⟩⟩
def OC (p K:Prop):Prop:=p/\K
structure Ob (p K:Prop):Prop where
 run:OC p K
theorem Dz:Ob=OC:=by
 funext _ _;exact propext ⟨λh=>h.run,λh=>⟨h⟩⟩
def Pp (k:IntKind) (x:Int) (K:Int->Prop):Prop:=K (k.wrap x)
structure Ar (k:IntKind) (x:Int) (K:Int->Prop):Prop where
 run:Pp k x K
theorem Jh:Ar=Pp:=by
 funext _ _ _;exact propext ⟨λh=>h.run,λh=>⟨h⟩⟩
def vU (h:Heap) (cs:List Value) (t:TypeId) (K:Nat->Heap->Prop):Prop :=
 ∀ b,h b=none->K b (h.set b (.cells cs.toArray t))
structure zB (h:Heap) (cs:List Value) (t:TypeId) (K:Nat->Heap->Prop):Prop where
 run:vU h cs t K
theorem lE:zB=vU:=by
 funext _ _ _ _;exact propext ⟨λh=>h.run,λh=>⟨h⟩⟩
def rd (h:Heap) (b off:Nat):Option Value:=match h b with
 | some (.cells c _ _)=>c[off]?
 | _=>none
def dP (h:Heap) (b:Nat):Nat->Nat->Option (List Value)
 | _,0=>some []
 | off,n+1=>match rd h b off,dP h b (off+1) n with
  | some v,some r=>some (v::r)
  | _,_=>none
def Ji (h:Heap) (b off:Nat) (K:Value->Prop):Prop:=∃ v,rd h b off=some v/\K v
structure Ld (h:Heap) (b off:Nat) (K:Value->Prop):Prop where
 run:Ji h b off K
theorem sW:Ld=Ji:=by
 funext _ _ _ _;exact propext ⟨λh=>h.run,λh=>⟨h⟩⟩
def zC (h:Heap) (b off n:Nat) (K:List Value->Prop):Prop:=∃ a,dP h b off n=some a/\K a
structure Pq (h:Heap) (b off n:Nat) (K:List Value->Prop):Prop where
 run:zC h b off n K
theorem oY:Pq=zC:=by
 funext _ _ _ _ _;exact propext ⟨λh=>h.run,λh=>⟨h⟩⟩
def xN (p:Option Addr) (K:Nat->Nat->Prop):Prop:=∃ b a,p=some ⟨b,a,none⟩/\K b a
structure Ptr (p:Option Addr) (K:Nat->Nat->Prop):Prop where
 run:xN p K
theorem nu:Ptr=xN:=by
 funext _ _;exact propext ⟨λh=>h.run,λh=>⟨h⟩⟩
def zD (h:Heap) (p:Option Addr) (k:Nat) (K:List Value->Prop):Prop:=((p=none\/k=0)/\K [])\/∃ b a c,p=some ⟨b,a,none⟩/\dP h b a k=some c/\K c
structure Lo (h:Heap) (p:Option Addr) (k:Nat) (K:List Value->Prop):Prop where
 run:zD h p k K
theorem oZ:Lo=zD:=by
 funext _ _ _ _;exact propext ⟨λh=>h.run,λh=>⟨h⟩⟩
def Gs:List Value->Nat->Value->List Value
 | [],_,_=>[]
 | _::r,0,v=>v::r
 | a::r,n+1,v=>a::Gs r n v
def eH (cs:List Value) (off:Nat):List Value->List Value
 | []=>cs
 | v::r=>eH (Gs cs off v) (off+1) r
def LU (h:Heap) (b off:Nat) (vs:List Value) (K:Heap->Prop):Prop :=
 ∃ a t,h b=some (.cells a t (0,0))/\off+vs.length<=a.size/\K (h.set b (.cells (eH a.toList off vs).toArray t (0,0)))
structure St (h:Heap) (b off:Nat) (vs:List Value) (K:Heap->Prop):Prop where
 run:LU h b off vs K
theorem zE:St=LU:=by
 funext _ _ _ _ _;exact propext ⟨λh=>h.run,λh=>⟨h⟩⟩
def take:Nat->List Value->Option (List Value)
 | 0,_=>some []
 | _+1,[]=>none
 | n+1,a::r=>match take n r with
  | some t=>some (a::t)
  | none=>none
def drop:Nat->List Value->List Value
 | 0,l=>l
 | _+1,[]=>[]
 | n+1,_::r=>drop n r
def iG:List Value->(List Value->Prop)->Prop
 | [],K=>K []
 | a::r,K=>iG r λb=>K (a::b)
def lF (b:Nat->Option Nat) (cs:List Value):List (Nat × List Value)->Option (List Value)
 | []=>some cs
 | (i,vs)::r=>match b i with
  | some a=>match (a+vs.length).ble cs.length with
   | true=>lF b (eH cs a vs) r
   | false=>none
  | none=>none
def uH (P:Program) (o:Oper) (e:Env) (h:Heap) (K:Value->Heap->Prop):Prop :=
 (∀ x∈o.op.operands,∃ v,e.get x=.v v)/\∀ b:Operand->Value,(∀ x∈o.op.operands,e.get x=.v (b x))->∀ w:World,(∀ c o,h c=some o->w.heap[c]? = some o) ->
  ∃ v a d,((execOp b o).run P w=.ok (.value v) a\/(execOp b o).run P w=.ok .skip a/\v=undef)/\cQ h w d a/\K v d
structure Raw (P:Program) (o:Oper) (e:Env) (h:Heap) (K:Value->Heap->Prop):Prop where
 run:uH P o e h K
theorem jS:Raw=uH:=by
 funext _ _ _ _ _;exact propext ⟨λh=>h.run,λh=>⟨h⟩⟩
def uW (P:Program) (o:Oper) (e:Env) (K:Value->Prop):Prop :=
 (∀ x∈o.op.operands,∃ v,e.get x=.v v)/\∃ v,K v/\∀ a:Operand->Value,(∀ x∈o.op.operands,e.get x=.v (a x))->∀ w:World,(execOp a o).run P w=.ok (.value v) w
structure LV (P:Program) (o:Oper) (e:Env) (K:Value->Prop):Prop where
 run:uW P o e K
theorem o7:LV=uW:=by
 funext _ _ _ _;exact propext ⟨λh=>h.run,λh=>⟨h⟩⟩
def uI (P:Program) (o:Oper) (e:Env) (h:Heap) (x:Bool) (K:Slot->Bx->Heap->Prop):Prop:=match x with
 | true=>LV P o e λv=>K (.v v) none h
 | false=>Raw P o e h λv a=>K (.v v) none a
def jl:Value->Bool
 | .agg _=>false
 | .tuple _=>false
 | _=>true
def dI:List Value->Bool
 | []=>true
 | v::r=>match jl v with
  | true=>dI r
  | false=>false
def vV (bytes f:Nat) (zero:List Value) (g:TypeId) (h:Heap) (a:Option Addr) (n cap m:Nat) (vs:List Value) (K:Value->Heap->Prop):Prop :=
 (n+m<=cap->dI vs=true/\match a with
  | some ⟨b,off,none⟩=>∃ d t,h b=some (.cells d t (0,0))/\off+n*f+vs.length<=d.size /\
    K (.slice a (n+m) cap) (h.set b (.cells (eH d.toList (off+n*f) vs).toArray t (0,0)))
  | some _=>False
  | none=>vs=[]/\K (.slice none (n+m) cap) h) /\
 (cap < n+m->(n+m)*bytes<=2 ^ 44/\n+m<=2 ^ 44/\∃ e,(match a with
  | some ⟨b,off,none⟩=>dP h b off (n*f)=some e
  | some _=>False
  | none=>n=0/\e=[]) /\
  ∀ b c,h b=none->n+m<=c->K (.slice (some ⟨b,0,none⟩) (n+m) c) (h.set b (.cells (e++vs++(List.replicate (c-(n+m)) zero).flatten).toArray g)))
structure App (bytes size:Nat) (zero:List Value) (elem:TypeId) (h:Heap) (a:Option Addr) (n cap m:Nat) (vs:List Value) (K:Value->Heap->Prop):Prop where
 run:vV bytes size zero elem h a n cap m vs K
theorem lG:App=vV:=by
 funext _ _ _ _ _ _ _ _ _ _ _;exact propext ⟨λh=>h.run,λh=>⟨h⟩⟩
def qD (a:List Nat) (vs:List Slot) (t:Nat):Slot :=
 match a,vs with
 | i::a,v::vs=>if t=i then v else qD a vs t
 | _,_=>.x
def A6 (a:List Nat) (cs:List (Option (List Value))) (t:Nat):Option (List Value) :=
 match a,cs with
 | i::a,c::cs=>if t=i then c else A6 a cs t
 | _,_=>none
def Slot.clean (a:List Nat):Slot->Slot
 | .l t b=>if a.contains t then .l t b else .x
 | .r t n=>if a.contains t then .r t n else .x
 | s=>s
def sX (b a:List Nat) (vs:List Slot) (cs:List (Option (List Value))):Env:=⟨λt=>(qD b vs t).clean a,A6 a cs⟩
def OD (i:(Ex->Env->Heap->Prop)->Env->Heap->Prop) (K:Ex->Env->Heap->Prop) (e:Env) (h:Heap):Prop :=
 ∃(d c:List Nat) (Inv:Nat->List Slot->List (Option (List Value))->Heap->Prop),(∃ n,Inv n (d.map e.s) (c.map e.b) h)/\∀ n g f h,Inv n g f h ->
  i (λx a b=>match x with | .normal=>∃ m,m < n/\Inv m (d.map a.s) (c.map a.b) b | .exit o=>K (.exit o) a b | .ret=>K .ret a b | .nT j=>K (.nT j) a b) (sX d c g f) h
structure Lp (body:(Ex->Env->Heap->Prop)->Env->Heap->Prop) (K:Ex->Env->Heap->Prop) (e:Env) (h:Heap):Prop where
 run:OD body K e h
theorem DA:Lp=OD:=by
 funext _ _ _ _;exact propext ⟨λh=>h.run,λh=>⟨h⟩⟩
def eu (b:Bool) (t f:Prop):Prop:=@Bool.rec (λ_=>Prop) f t b
def sY (e:Env) (t off n:Nat):Option (List Value):=match e.b t with
 | some a=>take n (drop off a)
 | none=>none
def load (c:TI) (x:Slot) (e:Env) (h:Heap) (K:Slot->Bx->Heap->Prop):Prop :=
 match x with
 | .l t d=>match sY e t d c.size with
  | some a=>match c.agg with
   | true=>iG a λa=>K (.v (.agg ⟨a⟩)) none h
   | false=>match a with
    | [v]=>K (.v v) none h
    | _=>False
  | none=>False
 | .v (.pointer (some ⟨b,d,none⟩))=>match c.agg with
  | true=>Pq h b d c.size λa=>K (.v (.agg ⟨a⟩)) none h
  | false=>match c.size with
   | 1=>Ld h b d λv=>K (.v v) none h
   | _=>False
 | _=>False
def cellsOf:Value->List Value
 | .agg a=>a.toList
 | v=>[v]
def iU (a:TI) (v:Value) (K:List Value->Prop):Prop :=
 match a.agg with
 | true=>match v with
  | .agg c=>iG c.toList λb=>match b.length.beq a.size with
   | true=>K b
   | false=>False
  | _=>False
 | false=>match jl v with
  | true=>K [v]
  | false=>False
def store (i:TI) (x:Slot) (v:Value) (e:Env) (h:Heap) (K:Slot->Bx->Heap->Prop):Prop :=
 iU i v λc=>match dI c with
 | false=>False
 | true=>match x with
 | .l t a=>match e.b t with
  | some d=>match (a+c.length).ble d.length with
   | true=>iG (eH d a c) λf=>K (.v undef) (some (t,f)) h
   | false=>False
  | none=>False
 | .v (.pointer (some ⟨b,a,none⟩))=>St h b a c λg=>K (.v undef) none g
 | _=>False
def bp (e:Env):List Operand->(List Value->Prop)->Prop
 | [],K=>K []
 | o::r,K=>match e.get o with
  | .v x=>bp e r λa=>K (x::a)
  | _=>False
def parts (e:Env) (a:Nat->Option TI):List (Nat × Operand)->(List (Nat × List Value)->Prop)->Prop
 | [],K=>K []
 | (i,o)::r,K=>match e.get o,a i with
  | .v x,some ti=>iU ti x λc=>parts e a r λb=>K ((i,c)::b)
  | _,_=>False
def sameKind:IntKind->IntKind->Bool
 | .i64,.i64=>true
 | .u8,.u8=>true
 | .i8,.i8=>true
 | .u64,.u64=>true
 | .i32,.i32=>true
 | .u32,.u32=>true
 | _,_=>false
def mx (x y:Int):Int:=if x < y then y else x
def mn (x y:Int):Int:=if y < x then y else x
def rD (c:BinOp) (k:IntKind) (x y:Int):Int :=
 let a:=BitVec.ofInt k.bits x
 let b:=BitVec.ofInt k.bits y
 match c with
 | .and=>k.wrap (a &&& b).toNat
 | .or=>k.wrap (a ||| b).toNat
 | .xor=>k.wrap (a ^^^ b).toNat
 | _=>k.wrap (a &&& ~~~b).toNat
def qE (c:BinOp) (k:IntKind) (a b:Int) (K:Value->Prop) (d:Prop):Prop :=
 match c with
 | .add=>Ar k (a+b) λn=>K (.int k n)
 | .sub=>Ar k (a-b) λn=>K (.int k n)
 | .mul=>Ar k (a*b) λn=>K (.int k n)
 | .quo=>Ob (b≠0) (Ar k (a.tdiv b) λn=>K (.int k n))
 | .rem=>Ob (b≠0) (K (.int k (a.tmod b)))
 | .eql=>K (.bool (decide (a=b)))
 | .neq=>K (.bool (!decide (a=b)))
 | .lss=>K (.bool (decide (a < b)))
 | .leq=>K (.bool (decide (a<=b)))
 | .gtr=>K (.bool (decide (b < a)))
 | .geq=>K (.bool (decide (b<=a)))
 | .and=>K (.int k (rD .and k a b))
 | .or=>K (.int k (rD .or k a b))
 | .xor=>K (.int k (rD .xor k a b))
 | .andNot=>K (.int k (rD .andNot k a b))
 | _=>d
def DB (a:Option Addr) (cap l c:Nat) (K:Option Addr->Prop):Prop :=
 ∀ b,(cap≠l->b=a.map λa=>a.add (l*c))->(cap=l->b=a)->K b
structure Sub (a:Option Addr) (cap l size:Nat) (K:Option Addr->Prop):Prop where
 run:DB a cap l size K
theorem vW:Sub=DB:=by
 funext _ _ _ _ _;exact propext ⟨λh=>h.run,λh=>⟨h⟩⟩
def lH (d:Nat) (a:Option Addr) (cap:Nat) (b:Option Slot) (h:Nat) (K:Value->Prop):Prop :=
 match b with
 | none=>K (.slice a h cap)
 | some (.v (.int _ l))=>Ob (0<=l/\l<=h) (Sub a cap l.toNat d λc=>K (.slice c (h-l.toNat) (cap-l.toNat)))
 | some _=>False
def lI (c:Nat) (a:Option Addr) (n cap:Nat) (b d:Option Slot) (K:Value->Prop):Prop :=
 match d with
 | none=>lH c a cap b n K
 | some (.v (.int _ x))=>Ob (0<=x/\x<=cap) (lH c a cap b x.toNat K)
 | some _=>False
def Gt (d:Nat):List Nat->Bool
 | []=>false
 | i::r=>match Nat.beq d i with
  | true=>true
  | false=>Gt d r
def Jj (F:Fs):Operand->Bool
 | .func g=>Gt g F.M
 | _=>false
def isLocal (F:Fs):Option Nat->Option Nat
 | some d=>match Gt d F.L with
  | true=>some d
  | false=>none
 | none=>none
def newVar (F:Fs) (t:TypeId) (d:Option Nat) (cs:List Value) (e:Env) (h:Heap) (K:Slot->Bx->Heap->Prop):Prop :=
 match isLocal F d with
 | some d=>match e.b d with
  | none=>iG cs λcs=>K (.l d 0) (some (d,cs)) h
  | some _=>False
 | none=>zB h cs t λb a=>K (.v (.pointer (some ⟨b,0,none⟩))) none a
def newRow (F:Fs) (t:TypeId) (d:Option Nat) (n:Nat) (cs:List Value) (e:Env) (h:Heap) (K:Slot->Bx->Heap->Prop):Prop :=
 match isLocal F d with
 | some d=>match e.b d with
  | none=>iG cs λcs=>K (.r d n) (some (d,cs)) h
  | some _=>False
 | none=>zB h cs t λb a=>K (.v (.slice (some ⟨b,0,none⟩) n n)) none a
def places (S:lD) (d:TD):Option ((Nat->Option Nat) × (Nat->Option TI)) :=
 match d with
 | .str b=>some ((λi=>match b[i]? with|some (o,_)=>some o|none=>none),(λi=>match b[i]? with|some (_,t)=>S.ty.find t|none=>none))
 | .arr n a=>some ((λi=>match S.ty.find a with|some c=>(match Nat.blt i n with|true=>some (i*c.size)|false=>none)|none=>none),(λ_=>S.ty.find a))
 | _=>none
def sg (n:Nat) (zero:List Value):List Value:=match n with
 | 0=>[]
 | n+1=>zero++sg n zero
def nth (a:List Oper) (i:Nat):Option Oper:=match a,i with
 | [],_=>none
 | o::_,0=>some o
 | _::r,i+1=>nth r i
def lenOf (x:Slot):Option Nat:=match x with
 | .v (.slice _ n _)=>some n
 | .v (.string s)=>some s.size
 | .r _ n=>some n
 | _=>none
def fB (e:Env):Option Operand->Option Slot
 | none=>none
 | some o=>some (e.get o)
def vX (k:Nat):Option (List Value)->Option Value:=λa=>match a with
 | some l=>match k,l with
  | 0,v::_=>some v
  | _,_=>none
 | none=>none
def Jk (S:lD) (t:TypeId) (c:List (Nat × Operand)) (e:Env) (K:Value->Prop):Prop :=
 match S.ty.find t with
 | some b=>match places S b.d with
  | none=>False
  | some (pl,Jl)=>parts e Jl c λd=>match lF pl b.zero d with
   | some a=>iG a λa=>K (.agg ⟨a⟩)
   | none=>False
 | none=>False
def appArg (e:Env) (b:Nat) (x:Slot) (h:Heap) (K:Nat->List Value->Prop):Prop :=
 match x with
 | .r t n=>match e.b t with
  | some a=>match a.length.beq (n*b)with
   | true=>K n a
   | false=>False
  | none=>False
 | .v (.slice p n _)=>Lo h p (n*b) λc=>K n c
 | _=>False
def qF (P:Program) (S:lD) (x:Bool) (f:Value) (args:List Value) (h:Heap) (K:Slot->Bx->Heap->Prop) (E:List PanicEntry->Heap->Prop):Prop :=
 match f with
 | .func (.func g) first captured=>match Nat.ble S.lo g,S.lt g with
  | true,true=>iG (first.toList++args++captured.toList) λargs=>match x with
   | true=>gD P g args h (λv a=>K (.v v) none a) E
   | false=>Call P g args h (λv a=>K (.v v) none a) E
  | _,_=>False
 | _=>False
def DC:Op->Bool
 | .move _ | .assign _ | .pick .. | .alloc _ | .box .. | .build .. | .buildSlice .. | .load .. | .nilCheck _ | .binOp .. | .unOp .. | .convert .. | .makeInterface .. | .makeFunc .. | .slice .. | .fieldAddr .. | .field .. | .indexAddr .. | .index .. | .extract .. | .makeSlice ..=>false
 | .call {callee:=.value _,.. }=>false
 | .call {callee:=.builtin .len,.. }=>false
 | .call {callee:=.builtin .append,.. }=>false
 | .call {callee:=.builtin .max,.. }=>false
 | .call {callee:=.builtin .min,.. }=>false
 | .call {callee:=.builtin .cap,.. }=>false
 | _=>true
def Du (l:List Nat):Option Nat->Bool
 | some d=>Gt d l
 | none=>false
def exec (P:Program) (S:lD) (F:Fs) (x:Bool) (o:Oper) (e:Env) (h:Heap) (K:Slot->Bx->Heap->Prop) (E:List PanicEntry->Heap->Prop):Prop :=
 let c:Prop:=match x && !DC o.op with
  | true=>False
  | false=>Raw P o e h λv z=>K (.v v) none z
 match o.op with
 | .move a | .assign a=>match e.get a with
  | .x=>False
  | s=>K s none h
 | .pick q a d=>match e.get q with
  | .v (.bool t)=>eu t (match e.get a with
    | .x=>False
    | s=>K s none h) (match e.get d with
    | .x=>False
    | s=>K s none h)
  | _=>False
 | .alloc t=>match S.ty.find t with
  | some b=>newVar F t o.dst b.zero e h K
  | none=>False
 | .box t a=>match e.get a,S.ty.find t with
  | .v v,some b=>iU b v λm=>newVar F t o.dst m e h K
  | _,_=>False
 | .build t D=>Jk S t D.toList e λv=>K (.v v) none h
 | .buildSlice t n D=>match S.ty.find t with
  | some ⟨_,_,_,_,.sl el⟩=>match S.ty.find el with
   | some b=>match (n*b.size).ble 16777216 with
    | true=>parts e (λ_=>some b) D.toList λj=>match lF (λi=>some (i*b.size)) (sg n b.zero) j with
     | some m=>newRow F el o.dst n m e h K
     | none=>False
    | false=>False
   | none=>False
  | _=>False
 | .load t a=>match S.ty.find t with
  | some b=>match Du F.LL o.dst with
   | true=>match e.get a with
    | .l u f=>load b (.l u f) e h K
    | _=>False
   | false=>load b (e.get a) e h K
  | none=>False
 | .store t a d=>match S.ty.find t,e.get d with
  | some b,.v v=>store b (e.get a) v e h K
  | _,_=>False
 | .nilCheck a=>match e.get a with
  | .l t f=>K (.l t f) none h
  | .v (.pointer (some a))=>K (.v (.pointer (some a))) none h
  | .v (.iface t v)=>K (.v (.iface t v)) none h
  | .v (.func (.func g) a d)=>K (.v (.func (.func g) a d)) none h
  | _=>c
 | .binOp B t a d _=>match e.get a,e.get d with
  | .v (.int k C),.v (.int k' n)=>match sameKind k k' with
   | true=>qE B k C n (λv=>K (.v v) none h) c
   | false=>c
  | .v (.bool x),.v (.bool y)=>match S.ty.find t with
   | some ⟨_,_,_,_,.Po⟩=>match B with
    | .eql=>K (.v (.bool (x==y))) none h
    | .neq=>K (.v (.bool (x != y))) none h
    | _=>c
   | _=>c
  | _,_=>uI P o e h x K
 | .unOp B _ a=>match B,e.get a with
  | .not,.v (.bool d)=>K (.v (.bool (!d))) none h
  | .neg,.v (.int k n)=>Ar k (0-n) λn=>K (.v (.int k n)) none h
  | _,_=>c
 | .convert s t a=>match S.ty.find s,S.ty.find t,e.get a with
  | some _,some tj,.v (.int _ n)=>match tj.d with
   | .num k=>Ar k n λn=>K (.v (.int k n)) none h
   | _=>c
  | _,_,_=>c
 | .makeInterface t a=>match S.ty.find t,e.get a with
  | some b,.v v=>match b.d with
   | .Dt=>False
   | _=>K (.v (.iface t v)) none h
  | _,_=>False
 | .makeFunc A w m=>bp e w.toList λw=>bp e m.toList λm=>K (.v (.func A ⟨w⟩ ⟨m⟩)) none h
 | .slice t a I H mx=>match S.ty.find t,mx with
  | some ⟨_,_,_,_,.sl el⟩,none=>match S.ty.find el,e.get a with
   | some b,.v (.slice p n cap)=>lI b.size p n cap (fB e I) (fB e H) λv=>K (.v v) none h
   | _,_=>c
  | _,_=>c
 | .fieldAddr t a i=>match S.ty.find t with
  | some ⟨_,_,_,_,.str w⟩=>match w[i]? with
   | some (k,_)=>match e.get a with
    | .l u f=>K (.l u (f+k)) none h
    | .v (.pointer (some ⟨d,f,none⟩))=>K (.v (.pointer (some ⟨d,f+k,none⟩))) none h
    | _=>False
   | none=>False
  | _=>False
 | .field t a i=>match S.ty.find t with
  | some ⟨_,_,_,_,.str w⟩=>match w[i]? with
   | some (k,u)=>match e.get a,S.ty.find u with
    | .v (.agg m),some b=>match take b.size (drop k m.toList)with
     | some j=>match b.agg with
      | true=>iG j λj=>K (.v (.agg ⟨j⟩)) none h
      | false=>match j with
       | [v]=>K (.v v) none h
       | _=>False
     | none=>False
    | _,_=>False
   | none=>False
  | _=>False
 | .indexAddr t a i=>match e.get i with
  | .v (.int _ i)=>match S.ty.find t with
   | some ⟨_,_,_,_,.sl el⟩=>match S.ty.find el,e.get a with
    | some b,.v (.slice p n _)=>Ob (0<=i/\i < n) (Ptr p λd f=>K (.v (.pointer (some ⟨d,f+i.toNat*b.size,none⟩))) none h)
    | some b,.r u n=>Ob (0<=i/\i < n) (K (.l u (i.toNat*b.size)) none h)
    | _,_=>False
   | some ⟨_,_,_,_,.arr n el⟩=>match S.ty.find el,e.get a with
    | some b,.v (.pointer (some ⟨d,f,none⟩))=>Ob (0<=i/\i < n) (K (.v (.pointer (some ⟨d,f+i.toNat*b.size,none⟩))) none h)
    | some b,.l u f=>Ob (0<=i/\i < n) (K (.l u (f+i.toNat*b.size)) none h)
    | _,_=>False
   | _=>False
  | _=>False
 | .index t a i=>match e.get a,e.get i with
  | .v (.string s),.v (.int _ i)=>match S.ty.find t with
   | some ⟨_,_,_,_,.Ln⟩=>Ob (0<=i/\i < s.size) (K (.v (.int .u8 ((s.data.toList.getD i.toNat 0).toNat:Nat))) none h)
   | _=>c
  | _,_=>c
 | .extract a i=>match e.get a with
  | .v (.tuple j)=>match vX 0 (take 1 (drop i j.toList))with
   | some v=>K (.v v) none h
   | none=>False
  | _=>False
 | .makeSlice t n q=>match S.ty.find t with
  | some ⟨_,_,_,_,.sl el⟩=>match S.ty.find el,e.get n,e.get q with
   | some b,.v (.int .i64 n),.v (.int .i64 q)=>Ob (n=q/\0<=n/\n*b.bytes<=2 ^ 44/\n<=2 ^ 44) (zB h (List.replicate n.toNat b.zero).flatten el λd z=>K (.v (.slice (some ⟨d,0,none⟩) n.toNat n.toNat)) none z)
   | _,_,_=>False
  | _=>False
 | .call {callee:=.value A,args:=args,.. }=>match e.get A with
  | .v G=>bp e args.toList λargs=>qF P S (x && !Jj F A) G args h K E
  | _=>False
 | .call {callee:=.builtin .len,args:=args,argTypes:=ts}=>match args.toList with
  | [a]=>match e.get a with
   | .v (.slice _ n _)=>match (ts.toList.head?).bind S.ty.find with
    | some ⟨_,_,_,_,.sl _⟩=>K (.v (.int .i64 n)) none h
    | _=>False
   | .r _ n=>match (ts.toList.head?).bind S.ty.find with
    | some ⟨_,_,_,_,.sl _⟩=>K (.v (.int .i64 n)) none h
    | _=>False
   | _=>c
  | _=>False
 | .call {callee:=.builtin .max,args:=args,.. }=>match args.toList with
  | [a,d]=>match e.get a,e.get d with
   | .v (.int k x),.v (.int k' y)=>match sameKind k k' with
    | true=>K (.v (.int k (mx x y))) none h
    | false=>c
   | _,_=>c
  | _=>c
 | .call {callee:=.builtin .min,args:=args,.. }=>match args.toList with
  | [a,d]=>match e.get a,e.get d with
   | .v (.int k x),.v (.int k' y)=>match sameKind k k' with
    | true=>K (.v (.int k (mn x y))) none h
    | false=>c
   | _,_=>c
  | _=>c
 | .call {callee:=.builtin .cap,args:=args,argTypes:=ts}=>match args.toList with
  | [a]=>match e.get a with
   | .v (.slice _ _ q)=>match (ts.toList.head?).bind S.ty.find with
    | some ⟨_,_,_,_,.sl _⟩=>K (.v (.int .i64 q)) none h
    | _=>False
   | _=>c
  | _=>False
 | .call {callee:=.builtin .append,args:=args,argTypes:=ts}=>match args.toList,ts.toList with
  | [a,y],[t,u]=>match S.ty.find t,S.ty.find u with
   | some ⟨_,_,_,_,.sl el⟩,some ⟨_,_,_,_,.sl _⟩=>match S.ty.find el with
    | some b=>match e.get a with
     | .v (.slice p n cap)=>appArg e b.size (e.get y) h λC j=>App b.bytes b.size b.zero el h p n cap C j λv z=>K (.v v) none z
     | _=>False
    | none=>False
   | _,_=>c
  | _,_=>False
 | .panic a=>match e.get a with
  | .v (.iface t v)=>E [{v:=.iface t v,recovered:=false}] h
  | _=>False
 | _=>c
def guardOf (a:List Oper) (g:Option (Nat × Bool)):Option (Option Nat × Bool):=match g with
 | none=>none
 | some (j,w)=>match nth a j with
  | some o=>some (o.dst,w)
  | none=>some (none,w)
def o9 (P:Program) (S:lD) (F:Fs) (x:Bool) (a:List Oper) (o:Oper) (e:Env) (h:Heap) (K:Env->Heap->Prop) (E:List PanicEntry->Heap->Prop):Prop :=
 let run (e:Env):Prop:=exec P S F x o e h (λs c f=>K (e.put o.dst s c) f) E
 let skip (e:Env):Prop:=K (e.put o.dst (.v undef) none) h
 match guardOf a o.guard with
 | none=>run e
 | some (none,_)=>skip e
 | some (some d,w)=>match e.s d with
  | .v (.bool b)=>eu b
   (match w with
    | true=>run (e.put (some d) (.v (.bool true)) none)
    | false=>skip (e.put (some d) (.v (.bool true)) none))
   (match w with
    | true=>skip (e.put (some d) (.v (.bool false)) none)
    | false=>run (e.put (some d) (.v (.bool false)) none))
  | .v (.tuple _)=>skip e
  | _=>False
def Gu (P:Program) (S:lD) (F:Fs) (x:Bool) (a:List Oper) (K:Env->Heap->Prop) (E:List PanicEntry->Heap->Prop):List Nat->Env->Heap->Prop
 | [],e,h=>K e h
 | i::r,e,h=>match nth a i with
  | some o=>o9 P S F x a o e h (λb c=>Gu P S F x a K E r b c) E
  | none=>False
def DD (P:Program) (S:lD) (F:Fs) (a:List Oper) (K:Env->Heap->Prop) (E:List PanicEntry->Heap->Prop):List Oper->Env->Heap->Prop
 | [],e,h=>K e h
 | o::r,e,h=>o9 P S F false a o e h (λb c=>DD P S F a K E r b c) E
def zF (id:Nat):List (Nat × List Nat)->Option (List Nat)
 | []=>none
 | (i,p)::r=>match Nat.beq id i with
  | true=>some p
  | false=>zF id r
def zG (id:Nat):List (Nat × PT)->Option PT
 | []=>none
 | (i,p)::r=>match Nat.beq id i with
  | true=>some p
  | false=>zG id r
def pn (P:Program) (S:lD) (F:Fs) (a:List Oper) (K:Env->Heap->Prop) (E:List PanicEntry->Heap->Prop):PT->Env->Heap->Prop
 | .nil,e,h=>K e h
 | .kA,_,_=>True
 | .one i r,e,h=>match nth a i with
  | some o=>o9 P S F true a o e h (λb c=>pn P S F a K E r b c) E
  | none=>False
 | .alt i t r,e,h=>(match nth a i with
  | some o=>o9 P S F true a o e h (λb c=>pn P S F a K E t b c) E
  | none=>False)/\pn P S F a K E r e h
def drawn (P:Program) (S:lD) (F:Fs) (id:Nat) (a:List Oper) (K:Env->Heap->Prop) (E:List PanicEntry->Heap->Prop) (e:Env) (h:Heap):Prop :=
 match zF id F.cq with
 | some p=>Gu P S F true a K E p e h
 | none=>match zG id F.trees with
  | some t=>pn P S F a K E t e h
  | none=>False
def den (P:Program) (S:lD) (F:Fs):Code->(Ex->Env->Heap->Prop)->Env->Heap->Prop
 | .skip,K,e,h=>K .normal e h
 | .label _,K,e,h=>K .normal e h
 | .region id ops dr,K,e,h=>match dr with
  | false=>DD P S F ops.toList (K .normal) (λc d=>K (.nT c) e d) ops.toList e h
  | true=>drawn P S F id ops.toList (K .normal) (λc d=>K (.nT c) e d) e h
 | .seq a b,K,e,h=>den P S F a (λx f d=>match x with | .normal=>den P S F b K f d | .exit i=>K (.exit i) f d | .ret=>K .ret f d | .nT c=>K (.nT c) f d) e h
 | .cond c a b,K,e,h=>match e.get c with
  | .v (.bool t)=>eu t (den P S F a K e h) (den P S F b K e h)
  | _=>False
 | .block id c,K,e,h=>den P S F c (λx f d=>match x with
  | .normal=>K .normal f d
  | .exit i=>match Nat.beq i id with
   | true=>K .normal f d
   | false=>K (.exit i) f d
  | .ret=>K .ret f d
  | .nT c=>K (.nT c) f d) e h
 | .loop c,K,e,h=>Lp (λK e h=>den P S F c K e h) K e h
 | .exit i,K,e,h=>K (.exit i) e h
 | .ret,K,e,h=>K .ret e h
 | .scope c,K,e,h=>den P S F c K e h
 | _,_,_,_=>False
set_option linter.unusedSimpArgs false
set_option linter.unusedVariables false
def jO:TypeDesc->TD
 | .bool=>.Po
 | .int k=>.num k
 | .string=>.Ln
 | .struct a=>.str (a.toList.map λf=>(f.offset,f.type))
 | .array n e=>.arr n e
 | .slice e=>.sl e
 | .pointer e=>.ptr e
 | .interface _=>.Dt
 | _=>.cn
def Jm:TypeDesc->Bool
 | .struct _=>true
 | .array _ _=>true
 | _=>false
def Jn (P:Program) (t:TypeId):Option TI :=
 match P.info? t,P.underlying t with
 | some i,some d=>match i.zero with
  | some z=>some ⟨i.size,i.bytes,z.cells.toList,Jm d,jO d⟩
  | none=>none
 | _,_=>none
def Tree.list {a:Type}:Tree a->List (Nat × a)
 | .leaf=>[]
 | .node l k v r=>l.list++(k,v)::r.list
theorem Tree.jn {a:Type} (i:Nat) (v:a):∀ t:Tree a,t.find i=some v->(i,v)∈t.list
 | .leaf,h=>by simp[Tree.find]at h
 | .node l k u r,h=>by
  unfold Tree.find at h;split at h
  ·rename_i b;have:=Nat.eq_of_beq_eq_true b;simp only[Option.some.injEq]at h;subst h;subst this;simp[Tree.list]
  split at h
  ·have:=Tree.jn i v l h;simp[Tree.list,this]
  have:=Tree.jn i v r h;simp[Tree.list,this]
structure dJ (P:Program) (S:lD):Prop where
 ty:∀ t ti,S.ty.find t=some ti->Jn P t=some ti
 fn:∀ g,S.lo<=g->g < S.nf->g≠S.OB->∃ fn,P.funcs[g]? = some fn/\fn.body.isNone=false/\(fn.name == "runtime.NumGoroutine")=false
 mix:P.follows .mixedOrders=true
 one:∀ t ti,S.ty.find t=some ti->ti.agg=false->ti.size=1
 zero:∀ t ti,S.ty.find t=some ti->ti.zero.length=ti.size
 bV:∀ t ti fs,S.ty.find t=some ti->ti.d=.str fs->∀ f∈fs,∃ tj,S.ty.find f.2=some tj/\tj.size≠0
 elems:∀ t ti k el,S.ty.find t=some ti->ti.d=.arr k el->(S.ty.find el).isSome
def LW (S:lD) (p:TypeId × TI):Bool:=(p.2.agg||p.2.size==1)&&p.2.zero.length==p.2.size&&match p.2.d with
 | .str b=>b.all λf=>match S.ty.find f.2 with
  | some c=>c.size != 0
  | none=>false
 | .arr _ a=>(S.ty.find a).isSome
 | _=>true
def Uu (P:Program) (g:Nat):Bool:=match P.funcs[g]? with
 | some a=>!a.body.isNone && !(a.name == "runtime.NumGoroutine")
 | none=>false
theorem dJ.mk' {P:Program} {S:lD} (e:S.ty.list.map (λp=>Jn P p.1)=S.ty.list.map (λp=>some p.2))
  (c:(List.range' S.lo (S.nf-S.lo)).all (λg=>Nat.beq g S.OB||Uu P g)=true) (a:P.follows .mixedOrders=true)
  (b:S.ty.list.all (LW S)=true):dJ P S where
 ty t ti h:=by
  have a:=Tree.jn t ti _ h;have:=(List.map_inj_left.1 e) _ a;exact this
 fn g b h2 h3:=by
  have:=List.all_eq_true.1 c g (by simp[List.mem_range'_1];omega);simp only[Bool.or_eq_true]at this;have:=this.resolve_left (λj=>h3 (Nat.eq_of_beq_eq_true j));unfold Uu at this;split at this
  ·rename_i fn d;simp at this;exact⟨fn,d,by simpa using this.1,by simpa using this.2⟩
  simp at this
 mix:=a
 one t ti h ha:=by
  have a:=Tree.jn t ti _ h;have:=List.all_eq_true.1 b _ a;simp only[LW,Bool.and_eq_true]at this;simpa [ha]using this.1.1
 zero t ti h:=by
  have a:=Tree.jn t ti _ h;have:=List.all_eq_true.1 b _ a;simp only[LW,Bool.and_eq_true]at this;simpa using this.1.2
 bV t ti fs h hd f c:=by
  have a:=Tree.jn t ti _ h;have:=List.all_eq_true.1 b _ a;simp only[LW,Bool.and_eq_true,hd]at this;have:=List.all_eq_true.1 this.2 f c;split at this
  ·rename_i m i;exact⟨m,i,by simpa using this⟩
  cases this
 elems t ti k el h hd:=by
  have a:=Tree.jn t ti _ h;have:=List.all_eq_true.1 b _ a;simp only[LW,Bool.and_eq_true,hd]at this;exact this.2
theorem dJ.info {P:Program} {S:lD} (b:dJ P S) {t:TypeId} {a:TI} (h:S.ty.find t=some a) :
  ∃ i z d,P.info? t=some i/\i.zero=some z/\P.underlying t=some d/\i.size=a.size/\i.bytes=a.bytes/\z.cells.toList=a.zero/\Jm d=a.agg/\jO d=a.d:=by
 have h:=b.ty t a h;unfold Jn at h;split at h
 ·rename_i i d e c;split at h
  ·rename_i z f;simp only[Option.some.injEq]at h;subst h;exact⟨i,z,d,e,f,c,rfl,rfl,rfl,rfl,rfl⟩
  cases h
 cases h
section
variable {P:Program} {S:lD} (hS:dJ P S)
include hS
theorem run_sizeOf {t:TypeId} {a:TI} (h:S.ty.find t=some a) (w:World):(sizeOf t).run P w=.ok a.size w:=by
 obtain⟨o,z,d,b,m,i,c,f,g,e,j⟩:=hS.info h;simp[sizeOf,typeInfo,b,c]
theorem ir {t:TypeId} {a:TI} (h:S.ty.find t=some a) (w:World):∃ z,(zeroValue t).run P w=.ok z w/\z.cells.toList=a.zero:=by
 obtain⟨o,z,e,c,d,i,j,g,b,f,m⟩:=hS.info h;exact⟨z,by simp[zeroValue,typeInfo,c,d],b⟩
theorem cN {t:TypeId} {a:TI} (h:S.ty.find t=some a) (w:World):∃ d,(underlying t).run P w=.ok d w/\Jm d=a.agg/\jO d=a.d:=by
 obtain⟨o,z,d,i,m,c,j,f,g,b,e⟩:=hS.info h;exact⟨d,by simp[underlying,c],b,e⟩
theorem nv {t:TypeId} {a:TI} (h:S.ty.find t=some a) (w:World):(isAgg t).run P w=.ok a.agg w:=by
 obtain⟨d,c,b,_⟩:=cN hS h w;simp only[isAgg,Sem.run_bind,c,Result.andThen_ok];rw[<-b];cases d<;>rfl
theorem jd {t:TypeId} {a:TI} (h:S.ty.find t=some a) (w:World):∃ i,(typeInfo t).run P w=.ok i w/\i.bytes=a.bytes/\i.size=a.size:=by
 obtain⟨i,z,e,c,o,j,d,b,g,f,m⟩:=hS.info h;exact⟨i,by simp[typeInfo,c],b,d⟩
end
def jo (a:Nat->Nat) (e:Env):Slot->Value->Prop
 | .v x,v=>v=x
 | .l t off,v=>v=.pointer (some ⟨a t,off,none⟩)/\(e.b t).isSome
 | .r t n,v=>v=.slice (some ⟨a t,0,none⟩) n n/\(e.b t).isSome
 | .x,_=>True
structure Rel (D:List Deferred) (n:Nat) (h0:Heap) (w0:World) (β:Nat->Nat) (e:Env) (h:Heap) (a:Act) (w:World):Prop where
 size:a.tmps.size=n
 zx:a.defers=D
 slot:∀ t,jo β e (e.s t) (a.tmps.getD t undef)
 box:∀ t cs,e.b t=some cs->(∃ ty,w.heap[β t]? = some (.cells cs.toArray ty (0,0)))/\h (β t)=none/\w0.heap.size<=β t
 inj:∀ t u,(e.b t).isSome->(e.b u).isSome->β t=β u->t=u
 mv:cQ h0 w0 h w
theorem Ba {H:Array Obj} {o:Obj} (c:∀ cs t z,o=Obj.cells cs t z->z=(0,0)) {b:Nat} {cs:Array Value} {t:TypeId} {z:Nat × Nat} (a:(H.push o)[b]? = some (Obj.cells cs t z)):z=(0,0)\/H[b]? = some (Obj.cells cs t z):=by
 rw[Array.getElem?_push]at a;split at a
 ·simp only[Option.some.injEq]at a;exact .inl (c _ _ _ a)
 exact .inr a
theorem Bb {H:Array Obj} {k:Nat} {o:Obj} (c:∀ cs t z,o=Obj.cells cs t z->z=(0,0)) {b:Nat} {cs:Array Value} {t:TypeId} {z:Nat × Nat} (a:(H.setIfInBounds k o)[b]? = some (Obj.cells cs t z)):z=(0,0)\/H[b]? = some (Obj.cells cs t z):=by
 rw[Array.getElem?_setIfInBounds]at a;split at a
 ·split at a
  ·simp only[Option.some.injEq]at a;exact .inl (c _ _ _ a)
  cases a
 exact .inr a
theorem cQ.refl {h:Heap} {w:World} (a:∀ b o,h b=some o->w.heap[b]? = some o):cQ h w h w :=
 ⟨a,λ_ _ _=>rfl,λ_ h=>.inl h,Nat.le_refl _,λ_ _ _ _ h=>.inr h,rfl,rfl,rfl⟩
theorem cQ.trans {h0 d e:Heap} {f g h:World} (a:cQ h0 f d g) (b:cQ d g e h):cQ h0 f e h where
 view:=b.view
 aK x hx hn:=by
  have j:d x=none:=by
   cases i:d x with
   | none=>rfl
   | some o =>
    rcases a.sB x (by simp[i])with c|c
    ·exact absurd hn c
    omega
  rw[b.aK x (by have:=a.size;omega) j,a.aK x hx hn]
 sB x hx:=by
  rcases b.sB x hx with c|c
  ·exact a.sB x c
  exact .inr (by have:=a.size;omega)
 size:=Nat.le_trans a.size b.size
 fz x cs t z hx:=(b.fz x cs t z hx).elim .inl (a.fz x cs t z)
 out:=⟨b.out.1.trans a.out.1,b.out.2.1.trans a.out.2.1,b.out.2.2.trans a.out.2.2⟩
theorem ec {w:World} {b:Nat} {o:Obj} (h:w.heap[b]? = some o):b < w.heap.size:=(Array.getElem?_eq_some_iff.1 h).1
variable {D:List Deferred} {n:Nat} {h0:Heap} {w0:World} {β:Nat->Nat} {e:Env} {h:Heap} {a:Act} {w:World}
theorem Rel.fresh (r:Rel D n h0 w0 β e h a w):h w.heap.size=none:=by
 cases b:h w.heap.size with
 | none=>rfl
 | some o=>have:=ec (r.mv.view _ _ b);omega
theorem Rel.eval (r:Rel D n h0 w0 β e h a w) {x:Operand} {v:Value} (b:e.get x=.v v):a.eval x=v:=by
 cases x with
 | tmp t=>have:=r.slot t;simp only[Env.get]at b;rw[b]at this;exact this
 | const c=>simp only[Env.get,Slot.v.injEq]at b;simp[Act.eval,b]
 | global g=>simp only[Env.get,Slot.v.injEq]at b;simp[Act.eval,b]
 | func f=>simp only[Env.get,Slot.v.injEq]at b;simp[Act.eval,b]
theorem Rel.jT (r:Rel D n h0 w0 β e h a w) (x:Operand):jo β e (e.get x) (a.eval x):=by
 cases x with
 | tmp t=>exact r.slot t
 | const c=>rfl
 | global g=>rfl
 | func f=>rfl
theorem sZ (a:Act) (d:Option Nat) (v:Value) (t:Nat) (f:∀ b,d=some b->b < a.tmps.size) :
  (a.put d v).tmps.getD t undef=match d with|none=>a.tmps.getD t undef|some b=>if t=b then v else a.tmps.getD t undef:=by
 cases d with
 | none=>rfl
 | some b =>
  have h:=f b rfl;simp only[Act.put,Array.getD_eq_getD_getElem?,Array.getElem?_setIfInBounds];by_cases e:t=b
  ·subst e;simp[h]
  have c:¬b=t:=λh=>e h.symm;simp[e,c]
theorem s3 (a:Act) (d:Option Nat) (v:Value):(a.put d v).tmps.size=a.tmps.size:=by cases d<;>simp[Act.put]
theorem put_defers (a:Act) (d:Option Nat) (v:Value):(a.put d v).defers=a.defers:=by cases d<;>rfl
theorem Rel.put (r:Rel D n h0 w0 β e h a w) {b:Heap} {w':World} (m:cQ h w b w') (d:Option Nat) (o:∀ c,d=some c->c < n) {s:Slot} {v:Value} (q:jo β e s v) :
  Rel D n h0 w0 β (e.put d s none) b (a.put d v) w' where
 size:=by rw[s3,r.size]
 zx:=by rw[put_defers,r.zx]
 slot t:=by
  rw[sZ a d v t (by rw[r.size];exact o)];cases d with
  | none=>exact r.slot t
  | some c =>
   simp only[Env.put];by_cases f:t=c
   ·simp only[f,if_true];cases s<;>exact q
   simp only[f,if_false];have:=r.slot t;revert this;cases e.s t<;>exact id
 box t cs hb:=by
  obtain⟨⟨ty,g⟩,i,j⟩:=r.box t cs hb;have p:=ec g;refine⟨⟨ty,by rw[m.aK _ p i,g]⟩,?_,j⟩;cases f:b (β t)with
  | none=>rfl
  | some u =>
   rcases m.sB (β t) (by simp[f])with b|b
   ·exact absurd i b
   omega
 inj:=r.inj
 mv:=r.mv.trans m
theorem Rel.Jo (r:Rel D n h0 w0 β e h a w) (d:Nat) (A:d < n) (i:e.b d=none) (cs:List Value) (ty:TypeId) {s:Slot} {v:Value}
  (C:(s=.l d 0/\v=.pointer (some ⟨w.heap.size,0,none⟩))\/(∃ k,s=.r d k/\v=.slice (some ⟨w.heap.size,0,none⟩) k k)) :
  Rel D n h0 w0 (λt=>if t=d then w.heap.size else β t) (e.put (some d) s (some (d,cs))) h (a.put (some d) v) {w with heap:=w.heap.push (.cells cs.toArray ty (0,0))} where
 size:=by rw[s3,r.size]
 zx:=by rw[put_defers,r.zx]
 slot t:=by
  rw[sZ a (some d) v t (by rintro _ ⟨⟩;rw[r.size];exact A)];simp only[Env.put];by_cases p:t=d
  ·simp only[p,if_true];rcases C with ⟨rfl,rfl⟩|⟨k,rfl,rfl⟩<;>simp[jo]
  simp only[p,if_false];have:=r.slot t;revert this
  cases G:e.s t with
  | v x=>exact id
  | x=>exact id
  | l u H =>
   intro ⟨b,c⟩;have f:u≠d:=λf=>by rw[f,i]at c;cases c
   simp[jo,f,b,c]
  | r u k =>
   intro ⟨b,c⟩;have f:u≠d:=λf=>by rw[f,i]at c;cases c
   simp[jo,f,b,c]
 box t m Io:=by
  simp only[Env.put]at Io;by_cases p:t=d
  ·simp only[p,if_true,Option.some.injEq]at Io ⊢;subst Io;exact⟨⟨ty,Z⟩,r.fresh,r.mv.size⟩
  simp only[p,if_false]at Io ⊢;obtain⟨⟨y,b⟩,c,o⟩:=r.box t m Io;have j:=ec b;exact⟨⟨y,by rw[Array.getElem?_push_lt j];rw[Array.getElem?_eq_getElem j]at b;exact b⟩,c,o⟩
 inj t u ht f Lq:=by
  simp only[Env.put]at ht f;by_cases b:t=d
  ·by_cases c:u=d
   ·rw[b,c]
   simp only[b,if_true,c,if_false]at Lq f;obtain⟨m,q⟩:=Option.isSome_iff_exists.1 f;obtain⟨⟨y,o⟩,_,_⟩:=r.box u m q;have:=ec o;omega
  by_cases c:u=d
  ·simp only[b,if_false,c,if_true]at Lq ht;obtain⟨m,q⟩:=Option.isSome_iff_exists.1 ht;obtain⟨⟨y,o⟩,_,_⟩:=r.box t m q;have:=ec o;omega
  simp only[b,if_false,c,if_false]at Lq ht f;exact r.inj t u ht f Lq
 mv:={
  view:=λg z i=>by
   have b:=r.mv.view g z i;have j:=ec b;show(w.heap.push _)[g]? = some z;rw[Array.getElem?_push_lt j];rw[Array.getElem?_eq_getElem j]at b;exact b
  aK:=λg i B=>by
   have b:=r.mv.aK g i B;have j:g < w.heap.size:=by have:=r.mv.size;omega
   show(w.heap.push _)[g]? = _;rw[Array.getElem?_push_lt j,<-b,Array.getElem?_eq_getElem j]
  sB:=r.mv.sB
  size:=by have:=r.mv.size;show w0.heap.size<=(w.heap.push _).size;simp;omega
  fz:=λg m E F i=>(Ba (λ_ _ _ h=>by cases h;rfl) i).elim .inl (r.mv.fz g m E F)
  out:=r.mv.out}
theorem cQ.push (i:∀ b o,h b=some o->w.heap[b]? = some o) (o:Obj) (g:∀ cs t z,o=Obj.cells cs t z->z=(0,0):=by intro _ _ _ h;cases h<;>rfl):cQ h w (h.set w.heap.size o) {w with heap:=w.heap.push o} where
 view b o' hb:=by
  show(w.heap.push o)[b]? = some o';simp only[Heap.set]at hb;split at hb
  ·rename_i f;subst f;simp only[Option.some.injEq]at hb;simp[hb]
  have c:=i b o' hb;have d:=ec c;rw[Array.getElem?_push_lt d];rw[Array.getElem?_eq_getElem d]at c;exact c
 aK b hb _:=by
  show(w.heap.push o)[b]? = _;rw[Array.getElem?_push_lt hb,Array.getElem?_eq_getElem hb]
 sB b hb:=by
  simp only[Heap.set]at hb;split at hb
  ·exact .inr O
  exact .inl hb
 size:=by show w.heap.size<=(w.heap.push o).size;simp
 fz _ _ _ _ hb:=Ba g hb
 out:=⟨rfl,rfl,rfl⟩
theorem cQ.DE (j:∀ b o,h b=some o->w.heap[b]? = some o) {b:Nat} {o:Obj} (f:h b=some o) (i:Obj) {w':World} (g:w'.heap=w.heap.setIfInBounds b i) (p:w'.os=w.os/\w'.tape=w.tape/\w'.output=w.output) (q:∀ cs t z,i=Obj.cells cs t z->z=(0,0):=by intro _ _ _ h;cases h<;>rfl):cQ h w (h.set b i) w' where
 view c x hc:=by
  rw[g,Array.getElem?_setIfInBounds];simp only[Heap.set]at hc;have m:=ec (j b o f);split at hc
  ·rename_i d;subst d;simp only[Option.some.injEq]at hc;simp[m,hc]
  rename_i d;rw[if_neg (λh=>d h.symm)];exact j c x hc
 aK c hc hn:=by
  rw[g,Array.getElem?_setIfInBounds];rw[if_neg];intro d;subst d;rw[f]at hn;cases hn
 sB c hc:=by
  simp only[Heap.set]at hc;split at hc
  ·rename_i d;subst d;exact .inl (by simp[f])
  exact .inl hc
 size:=by rw[g];simp
 fz _ _ _ _ f:=by rw[g]at f;exact Bb q f
 out:=p
def Sound (D:List Deferred) (P:Program) (n:Nat) (h0:Heap) (w0:World) (o:Oper) (a:Act) (w:World) (e:Env) (K:Slot->Bx->Heap->Prop) (E:List PanicEntry->Heap->Prop):Prop :=
 ∀(next:Act->World->Prop) (Q:Exit->Act->World->Prop),
  (∀ s f c i b d,K s f c->Rel D n h0 w0 i (e.put o.dst s f) c b d->next b d) ->
  (∀ g c b d,E g c->cQ h0 w0 c d->b.defers=D->Q (.panic g) b d)->o.wp P a w next Q
variable {P:Program} {S:lD} {o:Oper} {K:Slot->Bx->Heap->Prop} {E:List PanicEntry->Heap->Prop}
theorem gE (r:Rel D n h0 w0 β e h a w) (g:∀ c,o.dst=some c->c < n) {v:Value} {w':World} (i:(execOp a.eval o).run P w=.ok (.value v) w')
  {b:Heap} (m:cQ h w b w') {s:Slot} (j:jo β e s v) (f:K s none b):Sound D P n h0 w0 o a w e K E:=by
 intro next Q d p;unfold Oper.wp;rw[i];exact d s none b β _ w' f (r.put m o.dst g j)
theorem s4 (r:Rel D n h0 w0 β e h a w) (g:∀ c,o.dst=some c->c < n) {w':World} (i:(execOp a.eval o).run P w=.ok .skip w')
  {b:Heap} (m:cQ h w b w') (f:K (.v undef) none b):Sound D P n h0 w0 o a w e K E:=by
 intro next Q d j;unfold Oper.wp;rw[i];exact d (.v undef) none b β _ w' f (r.put m o.dst g rfl)
theorem gy (r:Rel D n h0 w0 β e h a w) (d:∀ b,o.dst=some b->b < n) {v:Value} (f:(execOp a.eval o).run P w=.ok (.value v) w)
  {s:Slot} (g:jo β e s v) (c:K s none h):Sound D P n h0 w0 o a w e K E :=
 gE r d f (cQ.refl r.mv.view) g c
theorem bH (r:Rel D n h0 w0 β e h a w) (d:∀ b,o.dst=some b->b < n) {v:Value} (f:(execOp a.eval o).run P w=.ok (.value v) w)
  (c:K (.v v) none h):Sound D P n h0 w0 o a w e K E :=
 gE r d f (cQ.refl r.mv.view) (s:=.v v) rfl c
theorem uX (r:Rel D n h0 w0 β e h a w) (j:∀ b,o.dst=some b->b < n) {d:Nat} (c:o.dst=some d) (i:e.b d=none) {cs:List Value} {ty:TypeId} {v:Value}
  (m:(execOp a.eval o).run P w=.ok (.value v) {w with heap:=w.heap.push (.cells cs.toArray ty (0,0))}) {s:Slot}
  (p:(s=.l d 0/\v=.pointer (some ⟨w.heap.size,0,none⟩))\/(∃ k,s=.r d k/\v=.slice (some ⟨w.heap.size,0,none⟩) k k)) (g:K s (some (d,cs)) h):Sound D P n h0 w0 o a w e K E:=by
 intro next Q f q;unfold Oper.wp;rw[m];have:=r.Jo d (j d c) i cs ty p;rw[<-c]at this;exact f s _ h _ _ _ g this
theorem lJ {F:Fs} {d:Option Nat} {b:Nat} (h:isLocal F d=some b):d=some b:=by
 unfold isLocal at h;split at h
 ·split at h
  ·simpa using h
  cases h
 cases h
theorem bF (l:List Value) (K:List Value->Prop):iG l K↔K l:=by
 induction l generalizing K with
 | nil=>exact Iff.rfl
 | cons a r b=>exact b (λc=>K (a::c))
theorem pq (r:Rel D n h0 w0 β e h a w) (f:∀ d,o.dst=some d->d < n) {F:Fs} {t:TypeId} {cs:List Value}
  (g:(execOp a.eval o).run P w=.ok (.value (.pointer (some ⟨w.heap.size,0,none⟩))) {w with heap:=w.heap.push (.cells cs.toArray t)})
  (b:newVar F t o.dst cs e h K):Sound D P n h0 w0 o a w e K E:=by
 unfold newVar at b;split at b
 ·rename_i j c;have c:=lJ c;split at b
  ·rename_i i;rw[bF]at b;exact uX r f c i (ty:=t) g (.inl ⟨rfl,rfl⟩) b
  exact b.elim
 rw[lE]at b;unfold vU at b;exact gE r f g (cQ.push r.mv.view _) (s:=.v (.pointer (some ⟨w.heap.size,0,none⟩))) rfl (b _ r.fresh)
theorem vY (r:Rel D n h0 w0 β e h a w) (f:∀ d,o.dst=some d->d < n) {F:Fs} {t:TypeId} {cs:List Value} {k:Nat}
  (g:(execOp a.eval o).run P w=.ok (.value (.slice (some ⟨w.heap.size,0,none⟩) k k)) {w with heap:=w.heap.push (.cells cs.toArray t)})
  (b:newRow F t o.dst k cs e h K):Sound D P n h0 w0 o a w e K E:=by
 unfold newRow at b;split at b
 ·rename_i j c;have c:=lJ c;split at b
  ·rename_i i;rw[bF]at b;exact uX r f c i (ty:=t) g (.inr ⟨k,rfl,rfl⟩) b
  exact b.elim
 rw[lE]at b;unfold vU at b;exact gE r f g (cQ.push r.mv.view _) (s:=.v (.slice (some ⟨w.heap.size,0,none⟩) k k)) rfl (b _ r.fresh)
theorem nw (f:∀ b o,h b=some o->w.heap[b]? = some o) {b off:Nat} {v:Value} (c:rd h b off=some v):w.cell? ⟨b,off,none⟩=some v:=by
 unfold rd at c;split at c
 ·rename_i g t i d;simp[World.cell?,f _ _ d,c]
 cases c
theorem iV (b off i:Nat):(⟨b,off,none⟩:Addr).add i=⟨b,off+i,none⟩:=by
 unfold Addr.add;split
 ·rename_i c;simp[c]
 rfl
theorem run_loadCells (vs:List Value):∀(b off i:Nat) (c:Array Value),(∀ j v,vs[j]? = some v->w.cell? ⟨b,off+(i+j),none⟩=some v) ->
  (loadCellsFrom ⟨b,off,none⟩ i vs.length c).run P w=.ok (c++vs.toArray) w:=by
 induction vs with
 | nil=>intro b off i c _;simp[loadCellsFrom]
 | cons v vs m =>
  intro b off i c d;have f:=d 0 v rfl;simp only[List.length_cons,loadCellsFrom,Sem.run_bind,run_load,iV];rw[show off+i=off+(i+0)from rfl,f];simp only[Result.andThen_ok];rw[m b off (i+1) (c.push v) (λj u g=>by have:=d (j+1) u (by simpa using g);rw[show i+1+j=i+(j+1)by omega];exact this)];simp
theorem mD {b:Nat}:∀(n off:Nat) (vs:List Value),dP h b off n=some vs->vs.length=n/\∀ j v,vs[j]? = some v->rd h b (off+j)=some v:=by
 intro n;induction n with
 | zero=>intro off vs c;simp[dP]at c;subst c;simp
 | succ n p =>
  intro off vs c;simp only[dP]at c;split at c
  ·rename_i v r f g;simp only[Option.some.injEq]at c;subst c;obtain⟨i,m⟩:=p _ _ g;refine⟨by simp[i],λj u d=>?_⟩;cases j with
   | zero=>simp at d;subst d;exact f
   | succ j=>simp at d;rw[show off+(j+1)=off+1+j by omega];exact m j u d
  cases c
theorem ny:∀(n:Nat) (l vs:List Value),take n l=some vs->vs=l.take n/\n<=l.length
 | 0,l,vs,h=>by simp[take]at h;simp[h]
 | n+1,[],vs,h=>by simp[take]at h
 | n+1,a::r,vs,h=>by
  simp only[take]at h;split at h
  ·rename_i t d;simp only[Option.some.injEq]at h;obtain⟨b,c⟩:=ny n r t d;subst h;simp[b,c]
  cases h
theorem drop_eq:∀(n:Nat) (l:List Value),drop n l=l.drop n
 | 0,l=>rfl
 | n+1,[]=>rfl
 | n+1,_::r=>by simp[drop,drop_eq n r]
theorem qG:∀(l:List Value) (i:Nat) (v:Value),Gs l i v=l.set i v
 | [],i,v=>by simp[Gs]
 | a::r,0,v=>rfl
 | a::r,i+1,v=>by simp[Gs,qG r i v]
theorem rE:∀(vs l:List Value) (off:Nat),(eH l off vs).length=l.length
 | [],l,off=>rfl
 | v::r,l,off=>by simp[eH,rE r,qG]
theorem xO (r:Rel D n h0 w0 β e h a w) {t:Nat} {cs:List Value} (c:e.b t=some cs) {off:Nat} {v:Value} (d:cs[off]? = some v):w.cell? ⟨β t,off,none⟩=some v:=by
 obtain⟨⟨ty,b⟩,_,_⟩:=r.box t cs c;simp[World.cell?,b,d]
theorem zH {t off k:Nat} {vs:List Value} (c:sY e t off k=some vs):∃ cs,e.b t=some cs/\vs.length=k/\∀ j v,vs[j]? = some v->cs[off+j]? = some v:=by
 unfold sY at c;split at c
 ·rename_i cs g;obtain⟨d,f⟩:=ny _ _ _ c;rw[drop_eq]at d f;refine⟨cs,g,by rw[d];simp at f ⊢;omega,λj v b=>?_⟩;rw[d]at b;have i:j < k:=by
   have:=(List.getElem?_eq_some_iff.1 b).1;simp at this;omega
  rw[List.getElem?_take_of_lt i,List.getElem?_drop]at b;exact b
 cases c
theorem uY (A:dJ P S) (r:Rel D n h0 w0 β e h a w) {t:TypeId} {i:TI} {x:Operand}
  (B:S.ty.find t=some i) (b:load i (e.get x) e h K):∃ s v,a.eval x=.pointer (some s)/\(loadVar t s).run P w=.ok v w/\K (.v v) none h:=by
 have y:=r.jT x;have G:∀(m g:Nat) (d:List Value),a.eval x=.pointer (some ⟨m,g,none⟩)->d.length=i.size->(∀ j v,d[j]? = some v->w.cell? ⟨m,g+j,none⟩=some v) ->
   (i.agg=true->K (.v (.agg ⟨d⟩)) none h)->(i.agg=false->∀ v,d=[v]->K (.v v) none h)->(i.agg=false->∃ v,d=[v])->∃ s v,a.eval x=.pointer (some s)/\(loadVar t s).run P w=.ok v w/\K (.v v) none h:=by
  intro m g d I u p L M N;have J:=run_loadCells (P:=P) (w:=w) d m g 0 #[] (λj v f=>by rw[Nat.zero_add];exact p j v f);rw[u]at J;cases c:i.agg with
  | true =>
   refine⟨_,.agg ⟨d⟩,I,?_,L c⟩;simp only[loadVar,Sem.run_bind,nv A B,Result.andThen_ok,c,if_true,run_sizeOf A B,loadCells,J];simp
  | false =>
   obtain⟨v,rfl⟩:=N c;refine⟨_,v,I,?_,M c v rfl⟩;have:=p 0 v rfl;simp only[Nat.add_zero]at this;simp[loadVar,nv A B,c,this]
 unfold load at b;split at b
 ·rename_i H g q;rw[q]at y;split at b
  ·rename_i d F;obtain⟨T,Q,u,p⟩:=zH F;refine G (β H) g d y.1 u (λj v f=>xO r Q (p j v f)) (λc=>?_) (λc v C=>?_) (λc=>?_)
   ·simp only[c]at b;rwa [bF]at b
   ·simp only[c,C]at b;exact b
   simp only[c]at b;split at b
   ·exact⟨_,rfl⟩
   exact b.elim
  exact b.elim
 ·rename_i m g q;rw[q]at y;cases c:i.agg with
  | true =>
   simp only[c]at b;rw[oY]at b;unfold zC at b;obtain⟨d,F,z⟩:=b;obtain⟨u,p⟩:=mD _ _ _ F;exact G m g d y u (λj v f=>nw r.mv.view (p j v f)) (λ_=>z) (λh=>by rw[c]at h;cases h) (λh=>by rw[c]at h;cases h)
  | false =>
   simp only[c]at b;split at b
   ·rename_i R;rw[sW]at b;unfold Ji at b;obtain⟨v,C,z⟩:=b;refine G m g [v] y (by simp[R]) (λj H f=>?_) (λh=>by rw[c]at h;cases h) (λ_ H q=>by simp at q;subst q;exact z) (λ_=>⟨v,rfl⟩);cases j with
    | zero=>simp at f;subst f;exact nw r.mv.view C
    | succ j=>simp at f
   exact b.elim
 exact b.elim
theorem s5 (i:dJ P S) (r:Rel D n h0 w0 β e h a w) (j:∀ b,o.dst=some b->b < n) {t:TypeId} {c:TI} {x:Operand} (m:o.op=.load t x)
  (p:S.ty.find t=some c) (q:load c (e.get x) e h K):Sound D P n h0 w0 o a w e K E:=by
 obtain⟨s,v,d,f,g⟩:=uY i r p q;exact bH r j (by simp[execOp,m,d,Instr.loadAt,Instr.sureAddr,f]) g
theorem zI {v:Value} (b:jl v=true):v.oneCell'=true:=by cases v<;>simp_all [jl,Value.oneCell']
theorem DF {w:World} {b:Nat} {o:Obj} (c:w.heap[b]? = some o):w.heap.setIfInBounds b o=w.heap:=by
 apply Array.ext_getElem?
 intro i;rw[Array.getElem?_setIfInBounds];split
 ·rename_i d;subst d;simp[ec c,(Array.getElem?_eq_some_iff.1 c).2]
 rfl
theorem vZ {w:World} {b off:Nat} {cs:Array Value} {ty:TypeId} (c:w.heap[b]? = some (.cells cs ty (0,0))) (v:Value) :
  (w.setCell ⟨b,off,none⟩ v).heap=w.heap.setIfInBounds b (.cells (cs.setIfInBounds off v) ty (0,0)):=by
 apply Array.ext_getElem?
 intro i;simp only[World.setCell,Array.getElem?_modify,Array.getElem?_setIfInBounds];by_cases d:b=i
 ·subst d;have f:=(Array.getElem?_eq_some_iff.1 c).2;simp[ec c,f]
 simp[d]
theorem fC (b:Nat) (ty:TypeId):∀(vs:List Value) (off i:Nat) (w:World) (cs:Array Value),w.heap[b]? = some (.cells cs ty (0,0))->off+i+vs.length<=cs.size->dI vs=true ->
  ∃ w',(storeCells ⟨b,off,none⟩ vs i).run P w=.ok () w'/\w'.heap=w.heap.setIfInBounds b (.cells (eH cs.toList (off+i) vs).toArray ty (0,0))/\w'.os=w.os/\w'.tape=w.tape/\w'.output=w.output:=by
 intro vs;induction vs with
 | nil =>
  intro off i w cs c f _;refine⟨w,by simp[storeCells],?_,rfl,rfl,rfl⟩;simp only[eH];rw[show cs.toList.toArray=cs from rfl,DF c]
 | cons v vs y =>
  intro off i w cs c f d;simp only[dI]at d;split at d
  ·rename_i x;have t:w.cell? ⟨b,off+i,none⟩=some (cs[off+i]'(by simp at f;omega)):=by simp[World.cell?,c]
   have u:w.frozen? ⟨b,off+i,none⟩=false:=by simp[World.frozen?,c]
   have j:=vZ (off:=off+i) c v;have s:(w.setCell ⟨b,off+i,none⟩ v).heap[b]? = some (.cells (cs.setIfInBounds (off+i) v) ty (0,0)):=by
    rw[j];simp[ec c]
   obtain⟨w',m,p,q⟩:=y off (i+1) _ (cs.setIfInBounds (off+i) v) s (by simp at f ⊢;omega) d;refine⟨w',?_,?_,q⟩
   ·simp only[storeCells,Sem.run_bind,iV,run_store P w _ v .plain (zI x),t,u];simpa using m
   rw[p,j];simp only[eH,qG,Array.toList_setIfInBounds];apply Array.ext_getElem?
   intro k;simp only[Array.getElem?_setIfInBounds];by_cases g:b=k
   ·subst g;simp[ec c];rfl
   simp[g]
  cases d
theorem Rel.LX (r:Rel D n h0 w0 β e h a w) (d:Option Nat) (J:∀ i,d=some i->i < n) {t:Nat} {cs m:List Value} {ty:TypeId} (j:e.b t=some cs)
  (N:w.heap[β t]? = some (.cells cs.toArray ty (0,0))) {w':World} (c:w'.heap=w.heap.setIfInBounds (β t) (.cells m.toArray ty (0,0))) (y:w'.os=w.os/\w'.tape=w.tape/\w'.output=w.output) :
  Rel D n h0 w0 β (e.put d (.v undef) (some (t,m))) h (a.put d undef) w' where
 size:=by rw[s3,r.size]
 zx:=by rw[put_defers,r.zx]
 slot u:=by
  rw[sZ a d undef u (by rw[r.size];exact J)];have z:∀ s v,jo β e s v->jo β (e.put d (.v undef) (some (t,m))) s v:=by
   intro s v;cases s with
   | v x=>exact id
   | x=>exact id
   | l k V=>intro ⟨h1,p⟩;refine⟨h1,?_⟩;simp only[Env.put];split<;>simp_all
   | r k T=>intro ⟨h1,p⟩;refine⟨h1,?_⟩;simp only[Env.put];split<;>simp_all
  cases d with
  | none=>exact z _ _ (r.slot u)
  | some i =>
   by_cases b:u=i
   ·simp only[b,if_true,Env.put];rfl
   have:=z _ _ (r.slot u);simp only[b,if_false,Env.put]at this ⊢;exact this
 box u ds hu:=by
  simp only[Env.put]at hu;have L:=ec N;obtain⟨_,p,C⟩:=r.box t cs j;by_cases b:u=t
  ·simp only[b,if_true,Option.some.injEq]at hu;subst hu;subst b;exact⟨⟨ty,by rw[c];simp[L]⟩,p,C⟩
  simp only[b,if_false]at hu;obtain⟨⟨Q,F⟩,G,H⟩:=r.box u ds hu;refine⟨⟨Q,?_⟩,G,H⟩;rw[c,Array.getElem?_setIfInBounds,if_neg]
  ·exact F
  intro f;exact b (r.inj u t (by simp[hu]) (by simp[j]) f.symm)
 inj u k hu hk f:=by
  refine r.inj u k ?_ ?_ f
  ·simp only[Env.put]at hu;split at hu<;>simp_all
  simp only[Env.put]at hk;split at hk<;>simp_all
 mv:={
  view:=λg o q=>by
   rw[c,Array.getElem?_setIfInBounds,if_neg]
   ·exact r.mv.view g o q
   intro f;subst f;rw[(r.box t cs j).2.1]at q;cases q
  aK:=λg I M=>by
   rw[c,Array.getElem?_setIfInBounds,if_neg]
   ·exact r.mv.aK g I M
   intro f;have:=(r.box t cs j).2.2;omega
  sB:=r.mv.sB
  size:=by rw[c];simp;exact r.mv.size
  fz:=λg B t2 R A=>by
   rw[c]at A;exact(Bb (λ_ _ _ h=>by cases h;rfl) A).elim .inl (r.mv.fz g B t2 R)
  out:=⟨y.1.trans r.mv.out.1,y.2.1.trans r.mv.out.2.1,y.2.2.trans r.mv.out.2.2⟩}
theorem lK {c:TI} {v:Value} {f:List Value->Prop} (b:iU c v f):∃ vs,f vs/\((c.agg=true/\v=.agg ⟨vs⟩/\vs.length=c.size)\/(c.agg=false/\vs=[v]/\jl v=true)):=by
 unfold iU at b;split at b
 ·rename_i d;split at b
  ·rename_i g;rw[bF]at b;split at b
   ·rename_i i;exact⟨g.toList,b,.inl ⟨d,rfl,Nat.eq_of_beq_eq_true i⟩⟩
   exact b.elim
  exact b.elim
 rename_i d;split at b
 ·rename_i j;exact⟨[v],b,.inr ⟨d,rfl,j⟩⟩
 exact b.elim
theorem we {v:Value} (b:jl v=true):v.cells = #[v]:=by cases v<;>simp_all [jl,Value.cells]
theorem kB {b:TI} {v:Value} {vs:List Value} (g:b.agg=false->b.size=1)
  (i:(b.agg=true/\v=.agg ⟨vs⟩/\vs.length=b.size)\/(b.agg=false/\vs=[v]/\jl v=true)):v.cells=⟨vs⟩/\vs.length=b.size:=by
 rcases i with ⟨f,c,d⟩|⟨f,c,d⟩
 ·exact⟨by rw[c];rfl,d⟩
 subst c;exact⟨we d,by simp[g f]⟩
theorem xP (C:dJ P S) (r:Rel D n h0 w0 β e h a w) (F:∀ A,o.dst=some A->A < n) {t:TypeId} {u:TI} {x y:Operand} {v:Value} (T:o.op=.store t x y)
  (I:S.ty.find t=some u) (Y:e.get y=.v v) (b:store u (e.get x) v e h K):Sound D P n h0 w0 o a w e K E:=by
 have j:=r.jT x;have W:=C.one t u I;unfold store at b;obtain⟨z,b,X⟩:=lK b;split at b
 ·exact b.elim
 rename_i G;obtain⟨M,R⟩:=kB W X;have H:∀ f c d,a.eval x=.pointer (some ⟨f,c,none⟩)->(storeCells ⟨f,c,none⟩ z).run P w=.ok () d->(execOp a.eval o).run P w=.ok .skip d:=by
  intro f c d N V;simp[execOp,T,N,r.eval Y,Instr.storeAt,Instr.sureAddr,storeVar,run_sizeOf C I,M,R,V]
 split at b
 ·rename_i J c m;rw[m]at j;split at b
  ·rename_i i g;split at b
   ·rename_i hle;have hle:=Nat.le_of_ble_eq_true hle;rw[bF]at b;obtain⟨⟨ty,B⟩,h2,h3⟩:=r.box J i g;obtain⟨d,p,q,s⟩:=fC (P:=P) (β J) ty z c 0 w i.toArray B (by simpa using hle) G;intro next aa Q hE;unfold Oper.wp;rw[H _ _ _ j.1 p];exact Q _ _ h β _ d b (r.LX o.dst F g B (by simpa using q) s)
   exact b.elim
  exact b.elim
 ·rename_i f c m;rw[m]at j;rw[zE]at b;unfold LU at b;obtain⟨i,ty,g,hle,L⟩:=b;obtain⟨d,p,q,s⟩:=fC (P:=P) f ty z c 0 w i (r.mv.view _ _ g) (by simpa using hle) G;refine s4 r F (H _ _ _ j p) (cQ.DE r.mv.view g _ (by simpa using q) s) L
 exact b.elim
theorem xQ (f:dJ P S) (r:Rel D n h0 w0 β e h a w) (i:∀ d,o.dst=some d->d < n) {F:Fs} {t:TypeId} {c:TI} {x:Operand} {v:Value} (j:o.op=.box t x)
  (m:S.ty.find t=some c) (p:e.get x=.v v) (b:iU c v λcs=>newVar F t o.dst cs e h K):Sound D P n h0 w0 o a w e K E:=by
 obtain⟨u,b,q⟩:=lK b;obtain⟨g,s⟩:=kB (f.one t c m) q;refine pq r i ?_ b;simp[execOp,j,r.eval p,Instr.box,Go.newVar,Go.newRow,g]
theorem xR (d:dJ P S) (r:Rel D n h0 w0 β e h a w) (g:∀ c,o.dst=some c->c < n) {F:Fs} {t:TypeId} {b:TI} (i:o.op=.alloc t)
  (j:S.ty.find t=some b) (m:newVar F t o.dst b.zero e h K):Sound D P n h0 w0 o a w e K E:=by
 refine pq r g ?_ m;obtain⟨z,p,f⟩:=ir d j w;have:z.cells=b.zero.toArray:=by rw[<-f]
 simp[execOp,i,Instr.alloc,Go.newVar,Go.newRow,p,this]
theorem s6:∀(vs:List Value) (off k:Nat) (cs:Array Value),
  ((vs.zipIdx k).foldl (λcs (c,j)=>cs.setIfInBounds (off+j) c) cs).toList=eH cs.toList (off+k) vs
 | [],off,k,cs=>rfl
 | v::vs,off,k,cs=>by
  simp only[List.zipIdx_cons,List.foldl_cons,eH,qG];rw[s6 vs off (k+1) (cs.setIfInBounds (off+k) v)];simp[Nat.add_assoc]
theorem qH (d:Nat->Option Nat) (f:Nat->Option (Nat × Nat)):∀(b:List (Nat × Value)) (c:List (Nat × List Value)) (cs:Array Value) (out:List Value),
  lF d cs.toList c=some out->b.length=c.length ->
  (∀ i (x:i < b.length) (y:i < c.length),c[i].1=b[i].1/\(b[i].2).cells=⟨c[i].2⟩/\∀ off,d b[i].1=some off->f b[i].1=some (off,c[i].2.length)) ->
  Instr.fill f cs b=some out.toArray
 | [],[],cs,out,h,_,_=>by simp[lF]at h;simp[Instr.fill,<-h]
 | [],_::_,_,_,_,h,_=>by simp at h
 | _::_,[],_,_,_,h,_=>by simp at h
 | (i,v)::b,(j,vs)::c,cs,out,h,hl,qI=>by
  have h0:=qI 0 Z Z;simp only[List.getElem_cons_zero]at h0;obtain⟨p,g,u⟩:=h0;subst p;simp only[lF]at h;split at h
  ·rename_i off t;split at h
   ·rename_i hle;have hle:=Nat.le_of_ble_eq_true hle;simp only[Instr.fill,u off t,g];have m:=s6 vs off 0 cs;have z:¬(vs.length≠vs.length||decide (off+vs.length > cs.size))=true:=by simp at hle ⊢;omega
    simp only[List.size_toArray];rw[if_neg (by simpa using hle)];refine qH d f b c _ out ?_ (by simpa using hl) (λk q s=>?_)
    ·rw[<-h];congr 1
     rw[<-Nat.add_zero off,<-m];simp[Array.foldl_toList]
    have:=qI (k+1) (by simpa using q) (by simpa using s);simpa using this
   cases h
  cases h
theorem oE {j:Nat->Option TI}:∀(c:List (Nat × Operand)) (Kp:List (Nat × List Value)->Prop),parts e j c Kp ->
  ∃ b,Kp b/\b.length=c.length/\∀ i (f:i < c.length) (g:i < b.length),b[i].1=c[i].1/\∃ v d,e.get c[i].2=.v v/\j c[i].1=some d /\
   ((d.agg=true/\v=.agg ⟨b[i].2⟩/\b[i].2.length=d.size)\/(d.agg=false/\b[i].2=[v]/\jl v=true))
 | [],Kp,h=>⟨[],h,rfl,λi f=>by simp at f⟩
 | (k,x)::c,Kp,h=>by
  simp only[parts]at h;split at h
  ·rename_i v d t s;obtain⟨y,h,u⟩:=lK h;obtain⟨b,m,p,q⟩:=oE c _ h;refine⟨(k,y)::b,m,by simp[p],λi f g=>?_⟩;cases i with
   | zero=>exact⟨rfl,v,d,t,s,u⟩
   | succ i=>exact q i (by simpa using f) (by simpa using g)
  exact h.elim
theorem Bd (z:List Value):∀ n,sg n z=(List.replicate n z).flatten
 | 0=>rfl
 | n+1=>by simp[sg,List.replicate_succ,Bd z n]
theorem xS (z:List Value) (c:0 < z.length):∀(n i:Nat),i < n*z.length->((List.replicate n z).flatten)[i]? = z[i % z.length]?
 | 0,i,h=>by simp at h
 | n+1,i,h=>by
  rw[List.replicate_succ,List.flatten_cons];by_cases b:i < z.length
  ·rw[List.getElem?_append_left b,Nat.mod_eq_of_lt b]
  rw[List.getElem?_append_right O,xS z c n (i-z.length) (by rw[Nat.succ_mul]at h;omega)];congr 1
  rw[<-Nat.mod_eq_sub_mod O]
theorem pz (z:List Value) (n:Nat):((List.replicate n z).flatten).length=n*z.length:=by simp
theorem s7 (z:Array Value) (n:Nat):(Array.range (n*z.size)).map (λi=>z[i % z.size]!)=((List.replicate n z.toList).flatten).toArray:=by
 by_cases c:0 < z.size
 ·apply Array.ext_getElem?
  intro i;by_cases b:i < n*z.size
  ·simp only[Array.getElem?_map,List.getElem?_toArray];rw[xS z.toList (by simpa using c) n i (by simpa using b)];have f:i % z.size < z.size:=Nat.mod_lt _ c;simp[b,f]
  rw[Array.getElem?_eq_none (by simp;omega),List.getElem?_toArray,List.getElem?_eq_none (by simp;omega)]
 have h0:z.size=0:=by omega
 have d:z.toList=[]:=by simpa using h0
 simp[h0,d]
theorem rF (g:dJ P S):∀(fs:List Field),(∀ f∈fs,(S.ty.find f.type).isSome) ->
  ∃ l:List (Nat × Nat),(∀ w:World,(fs.mapM (λ(f:Field)=>(do pure (f.offset,<-Go.sizeOf f.type):Sem (Nat × Nat)))).run P w=.ok l w)/\l.length=fs.length /\
   ∀ i (c:i < fs.length) d,S.ty.find (fs[i]).type=some d->l[i]? = some ((fs[i]).offset,d.size)
 | [],_=>⟨[],λw=>Z,rfl,λi c=>by simp at c⟩
 | f::fs,qI=>by
  obtain⟨l,p,q,s⟩:=rF g fs (λm t=>qI m (by simp[t]));obtain⟨d,j⟩:=Option.isSome_iff_exists.1 (qI f Z);refine⟨(f.offset,d.size)::l,λw=>?_,by simp[q],λi c u b=>?_⟩
  ·rw[List.mapM_cons];simp only[Sem.run_bind,run_sizeOf g j,Result.andThen_ok,Sem.run_pure,p]
  cases i with
  | zero=>simp only[List.getElem_cons_zero]at b ⊢;rw[j]at b;simp only[Option.some.injEq]at b;subst b;rfl
  | succ i=>simp only[List.getElem_cons_succ,List.getElem?_cons_succ]at b ⊢;exact s i (by simpa using c) u b
theorem xU (g:dJ P S) (r:Rel D n h0 w0 β e h a w) (hd:∀ I,o.dst=some I->I < n) {t:TypeId} {u:Array (Nat × Operand)} (F:o.op=.build t u)
  (f:Jk S t u.toList e λv=>K (.v v) none h):Sound D P n h0 w0 o a w e K E:=by
 unfold Jk at f;split at f
 ·rename_i V A;split at f
  ·exact f.elim
  rename_i R Jl c;obtain⟨qs,f,hlen,Dv⟩:=oE _ _ f;split at f
  ·rename_i x hcs;rw[bF]at f;obtain⟨W,Q,LY⟩:=ir g A w;obtain⟨H,J,Cd,z⟩:=cN g A w;refine gy r hd (v:=.agg ⟨x⟩) ?_ (s:=.v (.agg ⟨x⟩)) rfl f;have L:∀ B:Nat->Option (Nat × Nat),(∀ i j,Jl i=some j->∀ p,R i=some p->B i=some (p,j.size)) ->
     Instr.fill B W.cells (u.map λ(i,G)=>(i,a.eval G)).toList=some x.toArray:=by
    intro B hp;refine qH R B _ qs W.cells x (by rw[LY];exact hcs) (by simp[hlen]) (λi y hj=>?_);have LZ:i < u.toList.length:=by simpa using y
    obtain⟨X,v,j,Y,b,d⟩:=Dv i LZ hj;have Pr:j.agg=false->j.size=1:=by
     unfold places at c;split at c
     ·simp only[Option.some.injEq,Prod.mk.injEq]at c;rw[<-c.2]at b;simp only at b;split at b
      ·exact g.one _ _ b
      cases b
     ·simp only[Option.some.injEq,Prod.mk.injEq]at c;rw[<-c.2]at b;exact g.one _ _ b
     cases c
    obtain⟨h5,h6⟩:=kB Pr d;simp only[Array.toList_map,List.getElem_map];refine⟨X,?_,λp F=>?_⟩
    ·rw[r.eval Y];exact h5
    rw[h6];exact hp _ _ b p F
   unfold places at c;have zJ:(execOp a.eval o).run P w=((Instr.build t (u.map λ(i,G)=>(i,a.eval G))).run P w).andThen (λv w'=>.ok (.value v) w'):=by
    simp[execOp,F]
   rw[zJ];split at c
   ·rename_i fs q;simp only[Option.some.injEq,Prod.mk.injEq]at c;cases H<;>simp only[jO,q]at z<;>try cases z
    rename_i C;obtain⟨l,jq,hl2,si⟩:=rF g C.toList (λm hf=>by
     obtain⟨tj,N,_⟩:=g.bV t V _ A q (m.offset,m.type) (List.mem_map.2 ⟨m,hf,rfl⟩);simp only at N;simp[N])
    have:=L (λi=>l.toArray[i]?) (λi j b p d=>by
     rw[<-c.2]at b;rw[<-c.1]at d;simp only[List.getElem?_map]at b d;by_cases y:i < C.toList.length
     ·rw[List.getElem?_eq_getElem y]at b d;simp only[Option.map_some,Option.some.injEq]at b d;rw[List.getElem?_toArray,si i y j b,d]
     rw[List.getElem?_eq_none O]at b;cases b)
    simp only[Instr.build,Sem.run_bind,Q,J,Result.andThen_ok];have hm:∀ w,(C.mapM (λ(m:Field)=>(do pure (m.offset,<-Go.sizeOf m.type):Sem (Nat × Nat)))).run P w=.ok l.toArray w:=by
     intro w;rw[Array.mapM_eq_mapM_toList,Sem.run_map,jq w];rfl
    rw[hm];simp only[Result.andThen_ok,this,Sem.run_pure]
   ·rename_i k el q;simp only[Option.some.injEq,Prod.mk.injEq]at c;cases H<;>simp only[jO,q]at z<;>try cases z
    obtain⟨T,M⟩:=Option.isSome_iff_exists.1 (g.elems t V _ _ A q);have:=L (λi=>some (i*T.size,T.size)) (λi j b p d=>by
     rw[<-c.2]at b;rw[<-c.1]at d;simp only[M,Option.some.injEq]at b d;subst b;split at d
     ·simp only[Option.some.injEq]at d;rw[d]
     cases d)
    simp only[Instr.build,Sem.run_bind,Q,J,Result.andThen_ok,run_sizeOf g M,this,Sem.run_pure]
   cases c
  exact f.elim
 exact f.elim
theorem qJ (c:dJ P S) (r:Rel D n h0 w0 β e h a w) (Q:∀ s,o.dst=some s->s < n) {F:Fs} {t m:TypeId} {k:Nat} {A b:TI} {g:Array (Nat × Operand)} (j:o.op=.buildSlice t k g)
  (Ce:S.ty.find t=some A) (Jp:A.d=.sl m) (d:S.ty.find m=some b) (hle:k*b.size<=16777216)
  (f:parts e (λ_=>some b) g.toList λvs=>match lF (λi=>some (i*b.size)) (sg k b.zero) vs with
     | some cs=>newRow F m o.dst k cs e h K
     | none=>False):Sound D P n h0 w0 o a w e K E:=by
 obtain⟨qs,f,X,Dv⟩:=oE _ _ f;split at f
 ·rename_i cs N;refine vY r Q ?_ f;obtain⟨G,R,Cd,q⟩:=cN c Ce w;rw[Jp]at q;cases G<;>simp only[jO]at q<;>try cases q
  obtain⟨C,hz,v⟩:=ir c d w;have y:C.cells.size=b.size:=by rw[<-c.zero _ _ d,<-v];simp
  have p:Instr.fill (λi=>some (i*b.size,b.size)) ((List.replicate k b.zero).flatten).toArray (g.map λ(i,x)=>(i,a.eval x)).toList=some cs.toArray:=by
   refine qH (λi=>some (i*b.size)) _ _ qs _ cs (by rw[<-Bd];exact N) (by simp[X]) (λi T W=>?_);have V:i < g.toList.length:=by simpa using T
   obtain⟨H,B,ti',I,u,J⟩:=Dv i V W;simp only[Option.some.injEq]at u;subst u;obtain⟨L,M⟩:=kB (c.one _ _ d) J;simp only[Array.toList_map,List.getElem_map];refine⟨H,?_,λoff j=>?_⟩
   ·rw[r.eval I];exact L
   simp only[Option.some.injEq]at j;rw[M,j]
  have zJ:(execOp a.eval o).run P w=((Instr.buildSlice t k (g.map λ(i,x)=>(i,a.eval x))).run P w).andThen (λB w'=>.ok (.value B) w'):=by
   simp[execOp,j]
  rw[zJ];simp only[Instr.buildSlice,Sem.run_bind,R,Result.andThen_ok,run_sizeOf c d];rw[if_neg (by simp;omega)];by_cases h0:k*b.size=0
  ·rw[if_pos h0];have Y:(List.replicate k b.zero).flatten=[]:=by
    apply List.eq_nil_of_length_eq_zero;rw[pz,c.zero _ _ d];exact h0
   rw[Y]at p;simp only[h0,Sem.run_bind,Sem.run_pure,Result.andThen_ok];simp only[show Array.range 0 = #[]from rfl,Array.map_empty];rw[p];simp[Go.newRow]
  rw[if_neg h0];have z:=s7 C.cells k;rw[y,v]at z;simp only[Sem.run_bind,hz,Result.andThen_ok,Sem.run_pure,y,z,p];simp[Go.newRow]
 exact f.elim
theorem sj (g:dJ P S) (r:Rel D n h0 w0 β e h a w) (H:∀ q,o.dst=some q->q < n) {t j:TypeId} {B f:TI} {x y:Operand} {k c:Int} (Q:o.op=.makeSlice t x y)
  (V:S.ty.find t=some B) (T:B.d=.sl j) (i:S.ty.find j=some f) (X:e.get x=.v (.int .i64 k)) (Y:e.get y=.v (.int .i64 c))
  (d:Ob (k=c/\0<=k/\k*f.bytes<=2 ^ 44/\k<=2 ^ 44) (zB h (List.replicate k.toNat f.zero).flatten j λb G=>K (.v (.slice (some ⟨b,0,none⟩) k.toNat k.toNat)) none G)):Sound D P n h0 w0 o a w e K E:=by
 rw[Dz]at d;unfold OC at d;rw[lE]at d;unfold vU at d;obtain⟨⟨rfl,L0,hkb,V6⟩,d⟩:=d;refine gE r H (v:=.slice (some ⟨w.heap.size,0,none⟩) k.toNat k.toNat) (w':={w with heap:=w.heap.push (.cells ((List.replicate k.toNat f.zero).flatten).toArray j)}) ?_ (cQ.push r.mv.view _) (s:=.v (.slice (some ⟨w.heap.size,0,none⟩) k.toNat k.toNat)) rfl (d _ r.fresh);obtain⟨F,I,Cd,p⟩:=cN g V w;rw[T]at p;cases F<;>simp only[jO]at p<;>try cases p
 obtain⟨C,hz,u⟩:=ir g i w;obtain⟨aa,J,L,Gi⟩:=jd g i w;have z:C.cells.size=f.size:=by rw[<-g.zero _ _ i,<-u];simp
 have W:IntKind.i64.wrap k=k:=by simp[IntKind.wrap,IntKind.bits,IntKind.signed];omega
 have R:(execOp a.eval o).run P w=((Instr.makeSlice t (.int .i64 k) (.int .i64 k)).run P w).andThen (λv w'=>.ok (.value v) w'):=by
  simp[execOp,Q,r.eval X,r.eval Y]
 rw[R];have M:¬((aa.bytes:Int)*k > 2 ^ 48):=by rw[L,Int.mul_comm];omega
 simp only[Instr.makeSlice,Sem.run_bind,I,Result.andThen_ok,asInt,asIntOf,Sem.run_pure,J,W];rw[if_neg (by simp at M ⊢;omega)];simp only[Sem.run_bind,run_askRoom,Result.andThen_ok,run_sizeOf g i];by_cases m:k.toNat*f.size=0
 ·rw[if_pos m];have N:(List.replicate k.toNat f.zero).flatten=[]:=by
   apply List.eq_nil_of_length_eq_zero;rw[pz,g.zero _ _ i];exact m
  simp[m,N,Go.newRow,show Array.range 0 = #[]from rfl]
 rw[if_neg m];have A:=s7 C.cells k.toNat;rw[z,u]at A;simp only[Sem.run_bind,hz,Result.andThen_ok,Sem.run_pure,z,A];simp[Go.newRow]
theorem cC {p q:Prop}:Ob p q↔p/\q:=by rw[Dz];unfold OC;exact Iff.rfl
theorem add_zero' (a:Addr):a.add 0=a:=by simp[Addr.add]
theorem wg (a:Option Addr) (k:Nat):a.map (λa=>a.add (0*k))=a:=by cases a<;>simp[add_zero']
theorem wj {i:Nat} {p:Option Addr} {m cap:Nat} {c t:Option Operand} {f:Value->Prop} (r:Rel D n h0 w0 β e h a w)
  (b:lI i p m cap (fB e c) (fB e t) f) :
  ∃ l d:Nat,(∀ w:World,(Instr.sliceBounds true m cap (c.map a.eval) (t.map a.eval) none).run P w=.ok (l,d,cap) w) /\
   f (.slice (if cap=l then p else p.map (·.add (l*i))) (d-l) (cap-l)):=by
 have s:∀ H:Nat,lH i p cap (fB e c) H f->∃ l:Nat,(∀ w:World,(match c.map a.eval with
   | some B=>Instr.sliceBound B H .sliceB
   | none=>pure 0).run P w=.ok l w)/\f (.slice (if cap=l then p else p.map (·.add (l*i))) (H-l) (cap-l)):=by
  intro H b;unfold lH at b;cases c with
  | none =>
   simp only[fB]at b;refine⟨0,λw=>Z,?_⟩;rw[wg];simpa using b
  | some x =>
   simp only[fB]at b;split at b
   ·rename_i d;cases d
   ·rename_i k l v;simp only[Option.some.injEq]at v;obtain⟨g,b⟩:=cC.1 b;rw[vW]at b;unfold DB at b;refine⟨l.toNat,λw=>?_,?_⟩
    ·simp only[Option.map_some,r.eval v,Instr.sliceBound,asIntOf,Sem.run_bind,Sem.run_pure,Result.andThen_ok,if_pos g]
    refine b _ (λA=>by rw[if_neg A]) (λy=>by rw[if_pos y])
   exact b.elim
 unfold lI at b;cases t with
 | none =>
  simp only[fB]at b;obtain⟨l,j,q⟩:=s m b;refine⟨l,m,λw=>?_,q⟩;have:=j w;cases c<;>simp_all [Instr.sliceBounds]
 | some C =>
  simp only[fB]at b;split at b
  ·rename_i d;cases d
  ·rename_i k x u;simp only[Option.some.injEq]at u;obtain⟨g,b⟩:=cC.1 b;obtain⟨l,j,q⟩:=s x.toNat b;clear b s;refine⟨l,x.toNat,λw=>?_,q⟩;have:=j w;cases c with
   | none =>
    simp only[Option.map_none,Sem.run_pure]at this;simp only[Instr.sliceBounds,Option.map_some,Option.map_none,r.eval u,Instr.sliceBound,asIntOf,Sem.run_bind,Sem.run_pure,Result.andThen_ok,if_true,if_pos g];injection this with h3 _
    rw[h3]
   | some F =>
    simp only[Option.map_some]at this;have z:(Instr.sliceBound (.int k x) cap .sliceAcap).run P w=.ok x.toNat w:=by
     simp only[Instr.sliceBound,asIntOf,Sem.run_bind,Sem.run_pure,Result.andThen_ok,if_pos g]
    simp only[Instr.sliceBounds,Option.map_some,r.eval u,Option.isSome_none,Bool.false_eq_true,if_false,if_true,Sem.run_bind,Sem.run_pure,Result.andThen_ok,z,this]
  exact b.elim
theorem xV (f:dJ P S) (r:Rel D n h0 w0 β e h a w) (z:∀ c,o.dst=some c->c < n) {t d:TypeId} {q j:TI} {x:Operand} {i g:Option Operand} {p:Option Addr} {m cap:Nat} (B:o.op=.slice t x i g none)
  (G:S.ty.find t=some q) (C:q.d=.sl d) (F:S.ty.find d=some j) (I:e.get x=.v (.slice p m cap))
  (H:lI j.size p m cap (fB e i) (fB e g) λv=>K (.v v) none h):Sound D P n h0 w0 o a w e K E:=by
 obtain⟨l,L,u,y⟩:=wj (P:=P) r H;refine bH r z ?_ y;obtain⟨s,A,J,b⟩:=cN f G w;rw[C]at b;cases s<;>simp only[jO]at b<;>try cases b
 simp only[execOp,B,Instr.sliceAt,Instr.slice,Sem.run_bind,A,Result.andThen_ok,r.eval I,Option.map_none,u,run_sizeOf f F,Sem.run_pure]
theorem sk (m:dJ P S) (r:Rel D n h0 w0 β e h a w) (z:∀ y,o.dst=some y->y < n) {t:TypeId} {v:TI} {fs:List (Nat × TypeId)} {i k:Nat} {u:TypeId} {x:Operand} (J:o.op=.fieldAddr t x i)
  (C:S.ty.find t=some v) (B:v.d=.str fs) (c:fs[i]? = some (k,u))
  (g:match e.get x with
    | .l u off=>K (.l u (off+k)) none h
    | .v (.pointer (some ⟨b,off,none⟩))=>K (.v (.pointer (some ⟨b,off+k,none⟩))) none h
    | _=>False):Sound D P n h0 w0 o a w e K E:=by
 obtain⟨F,H,Q,p⟩:=cN m C w;rw[B]at p;cases F<;>simp only[jO]at p<;>try cases p
 rename_i G;have d:=r.jT x;rw[List.getElem?_map,Array.getElem?_toList]at c;cases f:G[i]? with
 | none=>rw[f]at c;cases c
 | some j =>
  rw[f]at c;simp only[Option.map_some,Option.some.injEq,Prod.mk.injEq]at c;obtain⟨R,M,L⟩:=m.bV t v _ C B (j.offset,j.type) (List.mem_map.2 ⟨j,Array.mem_toList_iff.2 (Array.mem_of_getElem? f),rfl⟩);have A:∀ b off,a.eval x=.pointer (some ⟨b,off,none⟩)->(execOp a.eval o).run P w=.ok (.value (.pointer (some ⟨b,off+k,none⟩))) w:=by
   intro b off I;simp[execOp,J,I,Instr.fieldAt,H,f,Instr.sureAddr,fieldPlace,run_sizeOf m M,L,iV,c.1]
  split at g
  ·rename_i N off q;rw[q]at d;exact gy r z (A _ _ d.1) (s:=.l N (off+k)) ⟨rfl,d.2⟩ g
  ·rename_i b off q;rw[q]at d;exact gy r z (A _ _ d) (s:=.v _) rfl g
  exact g.elim
theorem nZ {k m:Nat} {l vs:List Value} (g:take k (drop m l)=some vs):vs.length=k/\∀ j v,vs[j]? = some v->l[m+j]? = some v:=by
 obtain⟨c,d⟩:=ny _ _ _ g;rw[drop_eq]at c d;refine⟨by rw[c];simp at d ⊢;omega,λj v b=>?_⟩;rw[c]at b;have f:j < k:=by
  have:=(List.getElem?_eq_some_iff.1 b).1;simp at this;omega
 rw[List.getElem?_take_of_lt f,List.getElem?_drop]at b;exact b
theorem zK {k m:Nat} {cs:Array Value} {vs:List Value} (d:take k (drop m cs.toList)=some vs):cs.extract m (m+k)=⟨vs⟩:=by
 obtain⟨b,c⟩:=ny _ _ _ d;rw[drop_eq]at b c;apply Array.ext'
 rw[b];simp[List.extract_eq_take_drop]
theorem xW (d:dJ P S) (r:Rel D n h0 w0 β e h a w) (s:∀ q,o.dst=some q->q < n) {t u:TypeId} {A j:TI} {fs:List (Nat × TypeId)} {i k:Nat} {x:Operand} {cs:Array Value} {vs:List Value} (M:o.op=.field t x i)
  (Q:S.ty.find t=some A) (N:A.d=.str fs) (c:fs[i]? = some (k,u)) (R:e.get x=.v (.agg cs)) (g:S.ty.find u=some j)
  (b:match j.agg with
      | true=>iG vs λvs=>K (.v (.agg ⟨vs⟩)) none h
      | false=>match vs with
       | [v]=>K (.v v) none h
       | _=>False) (z:take j.size (drop k cs.toList)=some vs):Sound D P n h0 w0 o a w e K E:=by
 obtain⟨B,H,V,p⟩:=cN d Q w;rw[N]at p;cases B<;>simp only[jO]at p<;>try cases p
 rename_i F;rw[List.getElem?_map,Array.getElem?_toList]at c;cases m:F[i]? with
 | none=>rw[m]at c;cases c
 | some C =>
  rw[m]at c;simp only[Option.map_some,Option.some.injEq,Prod.mk.injEq]at c;obtain⟨I,J⟩:=c;rw[<-J]at g;have y:(execOp a.eval o).run P w=((part C.type cs k).run P w).andThen (λv T=>.ok (.value v) T):=by
   simp[execOp,M,r.eval R,Instr.field,H,m,asAgg,I]
  cases f:j.agg with
  | true =>
   simp only[f]at b;rw[bF]at b;refine bH r s ?_ b;rw[y];simp only[part,Sem.run_bind,nv d g,f,Result.andThen_ok,if_true,run_sizeOf d g,Sem.run_pure,zK z]
  | false =>
   simp only[f]at b;rcases vs with _|⟨v,_|_⟩
   ·exact b.elim
   ·refine bH r s ?_ b;obtain⟨_,G⟩:=nZ z;have:=G 0 v rfl;rw[y];have L:cs[k]? = some v:=by simpa using this
    simp[part,nv d g,f,L]
   exact b.elim
theorem sn (B:dJ P S) (r:Rel D n h0 w0 β e h a w) (C:∀ L,o.dst=some L->L < n) {t:TypeId} {x y:Operand} {W:IntKind} {i:Int} (M:o.op=.indexAddr t x y)
  (V:e.get y=.v (.int W i))
  (c:match S.ty.find t with
   | some ⟨_,_,_,_,.sl m⟩=>match S.ty.find m,e.get x with
    | some ti,.v (.slice p n _)=>Ob (0<=i/\i < n) (Ptr p λb off=>K (.v (.pointer (some ⟨b,off+i.toNat*ti.size,none⟩))) none h)
    | some ti,.r u n=>Ob (0<=i/\i < n) (K (.l u (i.toNat*ti.size)) none h)
    | _,_=>False
   | some ⟨_,_,_,_,.arr n m⟩=>match S.ty.find m,e.get x with
    | some ti,.v (.pointer (some ⟨b,off,none⟩))=>Ob (0<=i/\i < n) (K (.v (.pointer (some ⟨b,off+i.toNat*ti.size,none⟩))) none h)
    | some ti,.l u off=>Ob (0<=i/\i < n) (K (.l u (off+i.toNat*ti.size)) none h)
    | _,_=>False
   | _=>False):Sound D P n h0 w0 o a w e K E:=by
 have j:=r.jT x;have N:=r.eval V;split at c
 ·rename_i m J;obtain⟨G,H,Q,z⟩:=cN B J w;cases G<;>simp only[jO]at z<;>try cases z
  have v:∀ d,S.ty.find m=some d->∀ b off A F,a.eval x=.slice (some ⟨b,off,none⟩) A F->(0<=i/\i < A)->(execOp a.eval o).run P w=.ok (.value (.pointer (some ⟨b,off+i.toNat*d.size,none⟩))) w:=by
   intro d g b off A F I f;simp[execOp,M,I,N,Instr.indexAt,H,asIntOf,f,run_sizeOf B g,iV]
  split at c
  ·rename_i d p A F g q;rw[q]at j;obtain⟨f,c⟩:=cC.1 c;rw[nu]at c;unfold xN at c;obtain⟨b,off,T,R⟩:=c;subst T;exact bH r C (v d g _ _ _ _ j f) R
  ·rename_i d u A g q;rw[q]at j;obtain⟨f,c⟩:=cC.1 c;refine gy r C (v d g _ _ _ _ j.1 f) (s:=.l u (i.toNat*d.size)) ⟨?_,j.2⟩ c;simp
  exact c.elim
 ·rename_i k m J;obtain⟨G,H,Q,z⟩:=cN B J w;cases G<;>simp only[jO]at z<;>try cases z
  have v:∀ d,S.ty.find m=some d->∀ b off,a.eval x=.pointer (some ⟨b,off,none⟩)->(0<=i/\i < k)->(execOp a.eval o).run P w=.ok (.value (.pointer (some ⟨b,off+i.toNat*d.size,none⟩))) w:=by
   intro d g b off I f;simp[execOp,M,I,N,Instr.indexAt,H,asIntOf,f,Instr.sureAddr,run_sizeOf B g,iV]
  split at c
  ·rename_i d b off g q;rw[q]at j;obtain⟨f,c⟩:=cC.1 c;exact bH r C (v d g _ _ j f) c
  ·rename_i d u off g q;rw[q]at j;obtain⟨f,c⟩:=cC.1 c;exact gy r C (v d g _ _ j.1 f) (s:=.l u (off+i.toNat*d.size)) ⟨rfl,j.2⟩ c
  exact c.elim
 exact c.elim
theorem uJ (r:Rel D n h0 w0 β e h a w) (g:∀ d,o.dst=some d->d < n) {x:Operand} {i:Nat} {vs:Array Value} {v:Value} (m:o.op=.extract x i)
  (q:e.get x=.v (.tuple vs)) (b:vX 0 (take 1 (drop i vs.toList))=some v) (p:K (.v v) none h):Sound D P n h0 w0 o a w e K E:=by
 refine bH r g ?_ p;have:vs[i]? = some v:=by
  unfold vX at b;split at b
  ·rename_i l j;obtain⟨f,c⟩:=nZ j;match l,f,b,c with
   | [u],_,b,c =>
    simp only[Option.some.injEq]at b;subst b;have:=c 0 u rfl;simpa using this
  cases b
 simp[execOp,m,r.eval q,Instr.extract,this]
theorem uZ (b:Nat):∀(k c:Nat),256<=c->Builtin.growBy b k c<=2 ^ k*c
 | 0,c,_=>by simp[Builtin.growBy]
 | k+1,c,h=>by
  unfold Builtin.growBy;split
  ·have:1<=2 ^ (k+1):=Nat.one_le_two_pow;exact Nat.le_mul_of_pos_left c this
  have d:=uZ b k (c+(c+768) / 4) O;have f:c+(c+768) / 4<=2*c:=by omega
  calc _<=2 ^ k*(c+(c+768) / 4):=d
   _<=2 ^ k*(2*c):=Nat.mul_le_mul_left _ f
   _=2 ^ (k+1)*c:=by rw[Nat.pow_succ,Nat.mul_assoc]
theorem s9 {need cap:Nat} (h:cap < need):Builtin.nextslicecap need cap<=16*need:=by
 unfold Builtin.nextslicecap;split
 ·omega
 split
 ·omega
 have:=uZ need 4 cap O;omega
theorem lM (z:Array Value) (k:Nat):Builtin.zeroCells z k=((List.replicate k z.toList).flatten).toArray:=s7 z k
theorem xX (r:Rel D n h0 w0 β e h a w) {B:Nat} {y:Operand} {s:Nat->List Value->Prop} (b:appArg e B (e.get y) h s) :
  ∃ m vs,s m vs/\(∀ c:World,(Builtin.lenOf (a.eval y)).run P c=.ok m c) /\
   ∀ c:World,c.heap=w.heap->(Builtin.firstCells B m (a.eval y)).run P c=.ok vs.toArray c:=by
 have d:=r.jT y;unfold appArg at b;split at b
 ·rename_i I k p;rw[p]at d;split at b
  ·rename_i v F;split at b
   ·rename_i f;have f:=Nat.eq_of_beq_eq_true f;refine⟨k,v,b,λc=>by rw[d.1];rfl,λc j=>?_⟩;rw[d.1];simp only[Builtin.firstCells,loadCells];have:=run_loadCells (P:=P) (w:=c) v (β I) 0 0 #[] (λx C i=>by
     have:=xO r F i;simp only[World.cell?,j]at this ⊢;simpa using this)
    rw[f]at this;simpa using this
   exact b.elim
  exact b.elim
 ·rename_i A k u p;rw[p]at d;rw[oZ]at b;unfold zD at b;rcases b with ⟨q,b⟩|⟨t,z,vs,rfl,H,b⟩
  ·have g:a.eval y=.slice A k u:=d;refine⟨k,[],b,λc=>by rw[g];rfl,λc _=>?_⟩;rw[g];rcases q with rfl|q
   ·rfl
   cases A with
   | none=>rfl
   | some J =>
    simp only[Builtin.firstCells,q];rfl
  obtain⟨f,G⟩:=mD _ _ _ H;have g:a.eval y=.slice (some ⟨t,z,none⟩) k u:=d;refine⟨k,vs,b,λc=>by rw[g];rfl,λc j=>?_⟩;rw[g];simp only[Builtin.firstCells,loadCells];have:=run_loadCells (P:=P) (w:=c) vs t z 0 #[] (λx C i=>by
   have:=nw r.mv.view (G x C i);simp only[World.cell?,j]at this ⊢;simpa using this)
  rw[f]at this;simpa using this
 exact b.elim
theorem wk (d:dJ P S) (r:Rel D n h0 w0 β e h a w) (G:∀ Q,o.dst=some Q->Q < n) {t u g:TypeId} {ti tu b:TI} {Uv:TypeId} {x y:Operand} {args:Array Operand} {N:Array TypeId} {p:Option Addr} {k cap:Nat}
  (ho:o.op=.call {callee:=.builtin .append,args:=args,argTypes:=N}) (hargs:args.toList=[x,y]) (Uw:N.toList=[t,u])
  (Ce:S.ty.find t=some ti) (Jp:ti.d=.sl g) (Jq:S.ty.find u=some tu) (Jr:tu.d=.sl Uv) (i:S.ty.find g=some b) (OE:e.get x=.v (.slice p k cap))
  (c:appArg e b.size (e.get y) h λm vs=>App b.bytes b.size b.zero g h p k cap m vs λv h'=>K (.v v) none h'):Sound D P n h0 w0 o a w e K E:=by
 obtain⟨m,vs,c,X,Cf⟩:=xX (P:=P) r c;have Js:args = #[x,y]:=by rw[<-hargs]
 have Pt:N = #[t,u]:=by rw[<-Uw]
 obtain⟨aa,V,Cd,L⟩:=cN d Ce w;rw[Jp]at L;cases aa<;>simp only[jO]at L<;>try cases L
 obtain⟨du,W,_,M⟩:=cN d Jq w;rw[Jr]at M;cases du<;>simp only[jO]at M<;>try cases M
 have Y:(execOp a.eval o).run P w=((Builtin.append_ #[t,u] o.type #[.slice p k cap,a.eval y]).run P w).andThen (λv w'=>.ok (.value v) w'):=by
  simp[execOp,ho,Js,Pt,resolve,invoke,builtin,r.eval OE]
 rw[lG]at c;unfold vV at c;by_cases hle:k+m<=cap
 ·obtain⟨Gj,c⟩:=c.1 hle;have R:∀ w',(match p with
    | some a=>(storeCells (a.add (k*b.size)) vs).run P w=.ok () w'
    | none=>w'=w)->(execOp a.eval o).run P w=.ok (.value (.slice p (k+m) cap)) w':=by
   intro w' j;rw[Y];simp only[Builtin.append_,List.getElem?_toArray,List.getElem?_cons_zero,List.getElem?_cons_succ,Sem.run_bind,V,Result.andThen_ok,run_sizeOf d i,W,Sem.run_pure,Bool.false_eq_true,if_false,X,if_pos hle,Bool.not_false,if_true,Cf w rfl];cases p with
   | none=>simp only at j;subst j;simp
   | some pa=>simp only at j;simp[j]
  rcases p with _|⟨z,A,_|sp⟩
  ·obtain⟨Pu,F⟩:=c;exact bH r G (R w rfl) F
  ·obtain⟨cs,ty,T,zL,F⟩:=c;obtain⟨w',Pv,Jt,L4⟩:=fC (P:=P) z ty vs (A+k*b.size) 0 w cs (r.mv.view _ _ T) (by simpa using zL) Gj;refine gE r G (R w' ?_) (cQ.DE r.mv.view T _ (by simpa using Jt) L4) (s:=.v (.slice (some ⟨z,A,none⟩) (k+m) cap)) rfl F;simp only[iV];exact Pv
  exact c.elim
 obtain⟨V7,L5,B,J,c⟩:=c.2 O;obtain⟨ae,H,I,Gi⟩:=jd d i w;obtain⟨ad,hz,LY⟩:=ir d i w;have Pw:=s9 (need:=k+m) (cap:=cap) O;have Ju:Builtin.nextslicecap (k+m) cap*b.bytes<=2 ^ 48:=by
  have C:=Nat.mul_le_mul_right b.bytes Pw;rw[Nat.mul_assoc]at C;omega
 have DG:∀ q:World,q.heap=w.heap->(Builtin.firstCells b.size k (.slice p k cap)).run P q=.ok B.toArray q:=by
  intro q j;rcases p with _|⟨z,A,_|sp⟩
  ·rw[J.2];rfl
  ·obtain⟨hl,hc⟩:=mD _ _ _ J;simp only[Builtin.firstCells,loadCells];have:=run_loadCells (P:=P) (w:=q) B z A 0 #[] (λab v hj=>by
    have:=nw r.mv.view (hc ab v hj);simp only[World.cell?,j]at this ⊢;simpa using this)
   rw[hl]at this;simpa using this
  exact J.elim
 obtain⟨f,Jv,Jw⟩:∃ f,k+m<=f/\(choose (.appendCap (k+m) cap g)).run P w=.ok f {w with drawn:=w.drawn+1}:=by
  refine⟨_,?_,by simp[Question.forced];rfl⟩;simp only[Question.cut];omega
 have L6:ad.cells=b.zero.toArray:=by rw[<-LY]
 have Jx:¬(((k+m:Nat):Int) > IntKind.i64.max):=by
  have:(IntKind.i64.max:Int)=9223372036854775807:=by decide
  rw[this];omega
 refine gE r G (v:=.slice (some ⟨w.heap.size,0,none⟩) (k+m) f) (w':={w with drawn:=w.drawn+1,heap:=w.heap.push (.cells (B++vs++(List.replicate (f-(k+m)) b.zero).flatten).toArray g)}) ?_ ?_ (s:=.v (.slice (some ⟨w.heap.size,0,none⟩) (k+m) f)) rfl (c _ f r.fresh Jv)
 ·rw[Y];simp only[Builtin.append_,List.getElem?_toArray,List.getElem?_cons_zero,List.getElem?_cons_succ,Sem.run_bind,V,Result.andThen_ok,run_sizeOf d i,W,Sem.run_pure,Bool.false_eq_true,if_false,X,if_neg hle,Bool.not_false,if_true,H,I];rw[if_neg (by rintro⟨C,_⟩;exact Jx C)];simp only[Sem.run_bind,Sem.run_pure,Result.andThen_ok,H,I];rw[if_neg O];simp only[Sem.run_bind,Sem.run_pure,Result.andThen_ok,Jw,H,I,run_askRoom];obtain⟨i2,Jy,_,_⟩:=jd d i {w with drawn:=w.drawn+1};simp only[Jy,Result.andThen_ok];rw[DG {w with drawn:=w.drawn+1} rfl];simp only[Result.andThen_ok];rw[Cf {w with drawn:=w.drawn+1} rfl];obtain⟨z',Jz,L6⟩:=ir d i {w with drawn:=w.drawn+1};have DH:z'.cells=b.zero.toArray:=by rw[<-L6]
  simp only[Result.andThen_ok,Jz,lM,DH,Go.newRow,Sem.run_bind,run_newObj,Sem.run_pure];simp
 have:=cQ.push r.mv.view (.cells (B++vs++(List.replicate (f-(k+m)) b.zero).flatten).toArray g);exact⟨this.view,this.aK,this.sB,this.size,this.fz,rfl,rfl,rfl⟩
theorem nB:∀(xs:List Operand) (b:List Value->Prop),bp e xs b->∃ vs,b vs/\vs.length=xs.length/\∀ i (c:i < xs.length) (d:i < vs.length),e.get xs[i]=.v vs[i]
 | [],b,h=>⟨[],h,rfl,λi c=>by simp at c⟩
 | x::xs,b,h=>by
  simp only[bp]at h;split at h
  ·rename_i v m;obtain⟨vs,f,g,j⟩:=nB xs _ h;refine⟨v::vs,f,by simp[g],λi c d=>?_⟩;cases i with
   | zero=>exact m
   | succ i=>exact j i (by simpa using c) (by simpa using d)
  exact h.elim
theorem tc (r:Rel D n h0 w0 β e h a w) {xs:Array Operand} {vs:List Value} (d:vs.length=xs.toList.length) (f:∀ i (b:i < xs.toList.length) (c:i < vs.length),e.get xs.toList[i]=.v vs[i]):xs.map a.eval=vs.toArray:=by
 apply Array.ext
 ·simp at d ⊢;exact d.symm
 intro i b c;simp at b c;have:=f i (by simpa using b) c;simp only[Array.getElem_toList]at this;simp[r.eval this]
theorem wm (I:dJ P S) (r:Rel D n h0 w0 β e h a w) (N:∀ q,o.dst=some q->q < n) {x:Bool} {f:Operand} {s:Value} {args:Array Operand} {ts:Array TypeId} (Y:o.op=.call {callee:=.value f,args:=args,argTypes:=ts})
  (Q:e.get f=.v s) (b:bp e args.toList λargs=>qF P S x s args h K E):Sound D P n h0 w0 o a w e K E:=by
 obtain⟨j,b,A,B⟩:=nB _ _ b;have J:=tc r A B;unfold qF at b;split at b
 ·rename_i p first i hx9;split at b
  ·rename_i W u;obtain⟨fn,T,M,X⟩:=I.fn p (Nat.le_of_ble_eq_true W) (lD.Im u).1 (lD.Im u).2;rw[bF]at b;have zJ:(execOp a.eval o).run P w=.ok (.enter p (first++j.toArray++i)) w:=by
    simp only[execOp,Y,resolve,r.eval Q,Deferred.ofValue,J,Sem.run_bind,Sem.run_pure,Result.andThen_ok,invoke,callFunc,run_program,T,X,Bool.false_eq_true,if_false,M]
   have L:(first.toList++j++i.toList).toArray=first++j.toArray++i:=by
    apply Array.ext';simp
   have t:∀ R,eY P p (first.toList++j++i.toList) h R->(∀ v c,R (.ret v) c->K (.v v) none c)->(∀ d c,R (.nT d) c->E d c)->Sound D P n h0 w0 o a w e K E:=by
    intro R F H G next aa V C;unfold Oper.wp;rw[zJ];simp only[Oper.upon];rw[<-L];refine(F w r.mv.view).mono ?_;intro z y ⟨c,m,hm⟩;cases z with
    | returned v=>exact V _ none c β _ y (H v c hm) (r.put m o.dst N rfl)
    | panicked d=>exact C d c a y (G d c hm) (r.mv.trans m) r.zx
    | outgrown=>exact hm.elim
   split at b
   ·rw[qC]at b;unfold sV at b;exact t _ b (λv c g=>g.2) (λd c g=>g)
   rw[sU]at b;unfold xM at b;exact t _ b (λv c g=>g) (λd c g=>g)
  exact b.elim
 exact b.elim
theorem u0 (s:dJ P S) (r:Rel D n h0 w0 β e h a w) (y:∀ i,o.dst=some i->i < n) {x:Operand} {args:Array Operand} {d:Array TypeId} {k c:Nat} {p:Option Addr} {j:TI} {q:TypeId} (A:o.op=.call {callee:=.builtin .len,args:=args,argTypes:=d})
  (u:args.toList=[x]) (b:(d.toList.head?).bind (λt=>S.ty.find t)=some j) (B:j.d=.sl q) (F:a.eval x=.slice p k c) (C:K (.v (.int .i64 k)) none h):Sound D P n h0 w0 o a w e K E:=by
 refine bH r y ?_ C;have v:args = #[x]:=by rw[<-u]
 cases g:d.toList with
 | nil=>rw[g]at b;cases b
 | cons t H =>
  rw[g]at b;simp only[List.head?_cons,Option.bind_some]at b;obtain⟨m,z,G,f⟩:=cN s b w;rw[B]at f;cases m<;>simp only[jO]at f<;>try cases f
  have h0:d[0]? = some t:=by rw[<-Array.getElem?_toList,g];rfl
  simp[execOp,A,v,resolve,invoke,builtin,F,Builtin.len_,h0,z,goInt]
theorem xY {j k:IntKind} (b:sameKind j k=true):j=k:=by cases j<;>cases k<;>simp_all [sameKind]
theorem fX {k:IntKind} {x:Int} {b:Int->Prop}:Ar k x b↔b (k.wrap x):=by rw[Jh];unfold Pp;exact Iff.rfl
theorem so (b:BinOp) (t:TypeId) (x y:Operand) (j k:IntKind) (i m:Int) (w:World):(eqGuard b t x y (.int j i) (.int k m)).run P w=.ok () w:=by
 unfold eqGuard;cases b<;>rfl
theorem wo (r:Rel D n h0 w0 β e h a w) (c:∀ q,o.dst=some q->q < n) {f:BinOp} {t u:TypeId} {x y:Operand} {j k:IntKind} {i m:Int} (z:o.op=.binOp f t x y u)
  (C:e.get x=.v (.int j i)) (F:e.get y=.v (.int k m)) (p:sameKind j k=true) {s:Prop} (A:s->Sound D P n h0 w0 o a w e K E) (b:qE f j i m (λv=>K (.v v) none h) s):Sound D P n h0 w0 o a w e K E:=by
 have p:=xY p;subst p;have d:∀ v,(Go.binOp f t (.int j i) (.int j m)).run P w=.ok v w->(execOp a.eval o).run P w=.ok (.value v) w:=by
  intro v B;simp only[execOp,z,r.eval C,r.eval F,Sem.run_bind,so,Result.andThen_ok,B,Sem.run_pure]
 cases f<;>simp only[qE]at b<;>first
  | exact A b
  | (rw[fX]at b;exact bH r c (d _ (by simp[Go.binOp,Op.intArith])) b)
  | (obtain⟨g,b⟩:=cC.1 b;rw[fX]at b;exact bH r c (d _ (by simp[Go.binOp,Op.intDiv,g])) b)
  | (obtain⟨g,b⟩:=cC.1 b;exact bH r c (d _ (by simp[Go.binOp,Op.intDiv,g])) b)
  | (
   refine bH r c (d _ ?_) b;first
    | (simp[Go.binOp,Op.intCmp];done)
    | (simp[Go.binOp,Op.intCmp];rfl)
    | (simp[Go.binOp,Op.intCmp,bne,BEq.beq];done)
    | (simp[Go.binOp,Op.intBits,rD];done))
theorem kC (d:BinOp) (t:TypeId) (x y:Operand) (b c:Bool) (w:World):(eqGuard d t x y (.bool b) (.bool c)).run P w=.ok () w:=by
 unfold eqGuard;cases d<;>rfl
theorem run_equal_bool {t:TypeId} {b c:Bool} {w:World} (d:(underlying t).run P w=.ok .bool w):(Op.equal t (.bool b) (.bool c)).run P w=.ok (b==c) w:=by
 unfold Op.equal Op.maxDepth;rw[show(10000:Nat)=9999+1 from rfl,Op.equalIn];simp only[Sem.run_bind,d,Result.andThen_ok];rfl
theorem va (r:Rel D n h0 w0 β e h a w) (j:∀ f,o.dst=some f->f < n) (c:Raw P o e h λv g=>K (.v v) none g):Sound D P n h0 w0 o a w e K E:=by
 rw[jS]at c;unfold uH at c;obtain⟨d,c⟩:=c;obtain⟨v,q,g,b,m,i⟩:=c a.eval (λx p=>by obtain⟨v,d⟩:=d x p;rw[d,r.eval d]) w r.mv.view;rcases b with b|⟨b,rfl⟩
 ·exact gE r j b m (s:=.v v) rfl i
 exact s4 r j b m i
theorem bR (r:Rel D n h0 w0 β e h a w) (f:∀ c,o.dst=some c->c < n) {x:Bool} (b:match x && !DC o.op with
  | true=>False
  | false=>Raw P o e h λv d=>K (.v v) none d):Sound D P n h0 w0 o a w e K E:=by
 split at b
 ·exact b.elim
 exact va r f b
theorem zM (r:Rel D n h0 w0 β e h a w) (f:∀ d,o.dst=some d->d < n) {x:Bool} (b:uI P o e h x K):Sound D P n h0 w0 o a w e K E:=by
 unfold uI at b;split at b
 ·rw[o7]at b;unfold uW at b;obtain⟨c,v,g,i⟩:=b;exact bH r f (i a.eval (λx j=>by obtain⟨v,c⟩:=c x j;rw[c,r.eval c]) w) g
 exact va r f b
theorem lN (r:Rel D n h0 w0 β e h a w) (d:∀ c,o.dst=some c->c < n) {x:Operand} (f:(execOp a.eval o).run P w=.ok (.value (a.eval x)) w) (b:match e.get x with
    | .x=>False
    | s=>K s none h):Sound D P n h0 w0 o a w e K E:=by
 have g:=r.jT x;split at b
 ·exact b.elim
 exact gy r d f g b
theorem zO (g:dJ P S) {ab:Fs} {x:Bool} (r:Rel D n h0 w0 β e h a w) (c:∀ V,o.dst=some V->V < n) (b:exec P S ab x o e h K E):Sound D P n h0 w0 o a w e K E:=by
 obtain⟨dst,op,ty,pos,after,guard⟩:=o;cases op with
 | move y=>exact lN r c (x:=y) (by simp[execOp]) b
 | assign y=>exact lN r c (x:=y) (by simp[execOp]) b
 | pick m y z =>
  simp only[exec]at b;split at b
  ·rename_i t ht;have hc:=r.eval ht;cases t with
   | true=>exact lN r c (x:=y) (by simp[execOp,hc,asBool]) b
   | false=>exact lN r c (x:=z) (by simp[execOp,hc,asBool]) b
  exact b.elim
 | alloc t =>
  simp only[exec]at b;split at b
  ·rename_i Q f;exact xR g r c rfl f b
  exact b.elim
 | box t y =>
  simp only[exec]at b;split at b
  ·rename_i v Q N f;exact xQ g r c rfl f N b
  exact b.elim
 | build t ps=>exact xU g r c rfl b
 | buildSlice t k ps =>
  simp only[exec]at b;split at b
  ·rename_i G f;split at b
   ·rename_i te F;split at b
    ·rename_i hle;exact qJ g r c rfl f rfl F (Nat.le_of_ble_eq_true hle) b
    exact b.elim
   exact b.elim
  exact b.elim
 | load t y =>
  simp only[exec]at b;split at b
  ·rename_i Q f;split at b
   ·split at b
    ·rename_i R Y d;rw[<-d]at b;exact s5 g r c rfl f b
    exact b.elim
   exact s5 g r c rfl f b
  exact b.elim
 | store t y z =>
  simp only[exec]at b;split at b
  ·rename_i Q v f N;exact xP g r c rfl f N b
  exact b.elim
 | nilCheck y =>
  simp only[exec]at b;have B:=r.jT y;split at b
  ·rename_i t Y d;rw[d]at B;exact gy r c (v:=.pointer (some ⟨β t,Y,none⟩)) (by simp[execOp,B.1]) (s:=.l t Y) ⟨rfl,B.2⟩ b
  ·rename_i T d;exact bH r c (by simp[execOp,r.eval d]) b
  ·rename_i t v d;exact bH r c (by simp[execOp,r.eval d]) b
  ·rename_i ae aa m d;exact bH r c (by simp[execOp,r.eval d]) b
  exact bR r c b
 | binOp op t y z R =>
  simp only[exec]at b;split at b
  ·rename_i af j k I d i;split at b
   ·rename_i Lr;exact wo r c rfl d i Lr (bR r c) b
   exact bR r c b
  ·rename_i C m d i;split at b
   ·rename_i f;obtain⟨A,u,_,p⟩:=cN g f w;cases A<;>simp only[jO]at p<;>try cases p
    split at b
    ·refine bH r c ?_ b;simp only[execOp,r.eval d,r.eval i,Sem.run_bind,kC,Result.andThen_ok];rw[show Go.binOp .eql t (.bool C) (.bool m)=(do pure (.bool (<-Op.equal t (.bool C) (.bool m))))from rfl];simp only[Sem.run_bind,run_equal_bool u,Result.andThen_ok,Sem.run_pure]
    ·refine bH r c ?_ b;simp only[execOp,r.eval d,r.eval i,Sem.run_bind,kC,Result.andThen_ok];rw[show Go.binOp .neq t (.bool C) (.bool m)=(do pure (.bool (!(<-Op.equal t (.bool C) (.bool m)))))from rfl];simp only[Sem.run_bind,run_equal_bool u,Result.andThen_ok,Sem.run_pure,bne]
    exact bR r c b
   exact bR r c b
  exact zM r c b
 | unOp op t y =>
  simp only[exec]at b;split at b
  ·rename_i C d;exact bH r c (by simp[execOp,r.eval d,Op.unary]) b
  ·rename_i k I d;rw[fX]at b;exact bH r c (by simp[execOp,r.eval d,Op.unary,Op.intArith]) b
  exact bR r c b
 | convert s t y =>
  simp only[exec]at b;split at b
  ·rename_i Q tj k I f Px d;split at b
   ·rename_i k' V8;rw[fX]at b;refine bH r c ?_ b;obtain⟨A,u,_,p⟩:=cN g Px w;obtain⟨V,Py,_,_⟩:=cN g f w;rw[V8]at p;cases A<;>simp only[jO]at p<;>try cases p
    simp only[execOp,Go.convert,Sem.run_bind,Py,u,Result.andThen_ok,r.eval d,Conv.intToInt,Sem.run_pure]
   exact bR r c b
  exact bR r c b
 | index t y z =>
  simp only[exec]at b;split at b
  ·rename_i s k j d i;split at b
   ·rename_i f;obtain⟨hb,b⟩:=cC.1 b;refine bH r c ?_ b;obtain⟨A,u,_,p⟩:=cN g f w;cases A<;>simp only[jO]at p<;>try cases p
    have H:j.toNat < s.size:=by omega
    have hg:s[j.toNat]? = some (s[j.toNat]'H):=by simp[H]
    have hl:s.data.toList.getD j.toNat 0=s[j.toNat]'H:=by
     have:j.toNat < s.data.toList.length:=by simpa using H
     have W:s.data[j.toNat]? = some (s.data[j.toNat]'H):=Array.getElem?_eq_getElem H;simp[List.getD_eq_getElem?_getD,W];rfl
    simp only[execOp,Instr.index,r.eval d,r.eval i,asIntOf,Sem.run_bind,Sem.run_pure,Result.andThen_ok,u,if_pos hb.1,hg,hl]
   exact bR r c b
  exact bR r c b
 | makeInterface t y =>
  simp only[exec]at b;split at b
  ·rename_i Q v f d;split at b
   ·exact b.elim
   rename_i uD;refine bH r c ?_ b;obtain⟨A,u,_,p⟩:=cN g f w;cases A<;>first
    | (exfalso;exact uD (by rw[<-p];rfl))
    | simp[execOp,r.eval d,Instr.makeInterface,u]
  exact b.elim
 | makeFunc aa fs cs =>
  simp only[exec]at b;obtain⟨vs,b,h1,W⟩:=nB _ _ b;obtain⟨us,b,h3,h4⟩:=nB _ _ b;exact bH r c (by simp only[execOp,tc r h1 W,tc r h3 h4,Instr.makeFunc];rfl) b
 | slice t y lo hi mx =>
  simp only[exec]at b;split at b
  ·rename_i G f;split at b
   ·rename_i te T I cap F d;exact xV g r c rfl f rfl F d b
   exact bR r c b
  exact bR r c b
 | fieldAddr t y j =>
  simp only[exec]at b;split at b
  ·rename_i fs f;split at b
   ·rename_i k R L;exact sk g r c rfl f rfl L b
   exact b.elim
  exact b.elim
 | field t y j =>
  simp only[exec]at b;split at b
  ·rename_i fs f;split at b
   ·rename_i k R L;split at b
    ·rename_i cs tu d X;split at b
     ·rename_i vs Cf;exact xW g r c rfl f rfl L d X b Cf
     exact b.elim
    exact b.elim
   exact b.elim
  exact b.elim
 | indexAddr t y z =>
  simp only[exec]at b;split at b
  ·rename_i k j i;exact sn g r c rfl i b
  exact b.elim
 | extract y j =>
  simp only[exec]at b;split at b
  ·rename_i vs d;split at b
   ·rename_i v N;exact uJ r c rfl d N b
   exact b.elim
  exact b.elim
 | makeSlice t y z =>
  simp only[exec]at b;split at b
  ·rename_i G f;split at b
   ·rename_i te k m F d i;exact sj g r c rfl f rfl F d i b
   exact b.elim
  exact b.elim
 | panic y =>
  simp only[exec]at b;split at b
  ·rename_i t v d;intro next ad hk hE;unfold Oper.wp;have:(execOp a.eval ⟨dst,.panic y,ty,pos,after,guard⟩).run P w=.halt (.panic (.iface t v)) w:=by
    simp[execOp,r.eval d,Instr.panic]
   rw[this];exact hE _ h a w b r.mv r.zx
  exact b.elim
 | call m =>
  obtain⟨callee,args,ts⟩:=m;cases callee with
  | value aa =>
   simp only[exec]at b;split at b
   ·rename_i fv L;exact wm g r c rfl L b
   exact b.elim
  | invoke y I=>exact bR r c b
  | builtin C =>
   cases C with
   | len =>
    simp only[exec]at b;split at b
    ·rename_i y q;have B:=r.jT y;split at b
     ·rename_i T k m d;rw[d]at B;split at b
      ·rename_i G f;exact u0 g r c rfl q f rfl B b
      exact b.elim
     ·rename_i R k d;rw[d]at B;split at b
      ·rename_i G f;exact u0 g r c rfl q f rfl B.1 b
      exact b.elim
     exact bR r c b
    exact b.elim
   | max =>
    simp only[exec]at b;split at b
    ·rename_i y z q;split at b
     ·rename_i k I k' m' d i;split at b
      ·have J:args = #[y,z]:=by rw[<-q]
       refine bH r c ?_ b;simp only[execOp,resolve,Sem.run_bind,Sem.run_pure,Result.andThen_ok,invoke,builtin,Builtin.max_,J];simp[r.eval d,r.eval i,Builtin.max2,mx]
      exact bR r c b
     exact bR r c b
    exact bR r c b
   | min =>
    simp only[exec]at b;split at b
    ·rename_i y z q;split at b
     ·rename_i k I k' m' d i;split at b
      ·have J:args = #[y,z]:=by rw[<-q]
       refine bH r c ?_ b;simp only[execOp,resolve,Sem.run_bind,Sem.run_pure,Result.andThen_ok,invoke,builtin,Builtin.min_,J];simp[r.eval d,r.eval i,Builtin.min2,mn]
      exact bR r c b
     exact bR r c b
    exact bR r c b
   | cap =>
    simp only[exec]at b;split at b
    ·rename_i y q;split at b
     ·rename_i T k m d;split at b
      ·rename_i G f;have J:args = #[y]:=by rw[<-q]
       refine bH r c ?_ b;cases M:ts.toList with
       | nil=>rw[M]at f;cases f
       | cons t ts' =>
        rw[M]at f;simp only[List.head?_cons,Option.bind_some]at f;obtain⟨A,u,Cd,L7⟩:=cN g f w;cases A<;>simp only[jO]at L7<;>try cases L7
        have h0:ts[0]? = some t:=by rw[<-Array.getElem?_toList,M];rfl
        simp[execOp,J,resolve,invoke,builtin,r.eval d,Builtin.cap_,h0,u,goInt]
      exact b.elim
     exact bR r c b
    exact b.elim
   | append =>
    simp only[exec]at b;split at b
    ·rename_i y z t R q M;split at b
     ·rename_i G Uv f X;split at b
      ·rename_i te F;split at b
       ·rename_i T k cap d;exact wk g r c rfl q M f rfl X rfl F d b
       exact b.elim
      exact b.elim
     exact bR r c b
    exact b.elim
   | _=>exact bR r c b
 | _=>exact bR r c b
set_option linter.constructorNameAsVariable false
set_option linter.unusedVariables false
variable {D:List Deferred} {P:Program} {S:lD} {n:Nat} {h0:Heap} {w0:World} {β:Nat->Nat} {e:Env} {h:Heap} {a:Act} {w:World}
theorem qK:∀(l:List Oper) (i:Nat),nth l i=l[i]?
 | [],i=>by cases i<;>rfl
 | _::_,0=>rfl
 | _::r,i+1=>by simp[nth,qK r i]
theorem vc {b:Bool} {t f:Prop} (c:eu b t f):(b=true/\t)\/(b=false/\f):=by
 cases b
 ·exact .inr ⟨rfl,c⟩
 exact .inl ⟨rfl,c⟩
theorem Rel.known (r:Rel D n h0 w0 β e h a w) {d:Nat} {b:Bool} (f:e.s d=.v (.bool b)):Rel D n h0 w0 β (e.put (some d) (.v (.bool b)) none) h a w where
 size:=r.size
 zx:=r.zx
 slot t:=by
  simp only[Env.put];by_cases c:t=d
  ·simp only[c,if_true];have:=r.slot d;rw[f]at this;exact this
  simp only[c,if_false];have:=r.slot t;revert this;cases e.s t<;>exact id
 box:=r.box
 inj:=r.inj
 mv:=r.mv
theorem zP (r:Rel D n h0 w0 β e h a w) {g:Array Oper} {j d:Nat} {o:Oper} (m:g[j]? = some o) (i:o.dst=some d) {b:Bool} (p:e.s d=.v (.bool b)):yielded g a.tmps j=some b:=by
 have:=r.slot d;rw[p]at this;have c:a.tmps.getD d undef=.bool b:=this;have:a.tmps[d]? = some (.bool b):=by
  rw[Array.getD_eq_getD_getElem?]at c;cases f:a.tmps[d]? with
  | none=>rw[f]at c;simp[undef]at c
  | some v=>rw[f]at c;simp at c;rw[c]
 simp[yielded,m,i,this]
theorem wq (r:Rel D n h0 w0 β e h a w) {i:Array Oper} {j d:Nat} {o:Oper} (g:i[j]? = some o) (f:o.dst=some d) {vs:Array Value} (m:e.s d=.v (.tuple vs)):yielded i a.tmps j=none:=by
 have:=r.slot d;rw[m]at this;have c:a.tmps.getD d undef=.tuple vs:=this;cases b:a.tmps[d]? with
 | none=>simp[yielded,g,f,b]
 | some v =>
  rw[Array.getD_eq_getD_getElem?,b]at c;simp at c;simp[yielded,g,f,b,c]
theorem rG (V:dJ P S) {F:Fs} {x:Bool} {j:Array Oper} {i:Nat} {o:Oper} (L:j[i]? = some o) {K:Env->Heap->Prop} {E:List PanicEntry->Heap->Prop} (r:Rel D n h0 w0 β e h a w) (J:∀ I,o.dst=some I->I < n)
  (b:o9 P S F x j.toList o e h K E) {next:Act->World->Prop} {Q:Exit->Act->World->Prop}
  (M:∀ e' f H q w',K e' f->Rel D n h0 w0 H e' f q w'->next q w')
  (R:∀ c f q w',E c f->cQ h0 w0 f w'->q.defers=D->Q (.panic c) q w'):wpOp P j Q i next a w:=by
 have run:∀ d,Rel D n h0 w0 β d h a w->exec P S F x o d h (λA y f=>K (d.put o.dst A y) f) E->o.wp P a w next Q:=by
  intro d m u;exact zO V m J u next Q (λA y f H q w' B T=>M _ _ H _ _ B T) R
 have skip:∀ d,Rel D n h0 w0 β d h a w->K (d.put o.dst (.v undef) none) h->next (a.put o.dst undef) w:=by
  intro d m B;exact M _ _ β _ _ B (m.put (cQ.refl m.mv.view) o.dst J rfl)
 have G:∀ d,Region.wanted o (yielded j a.tmps)=true->Rel D n h0 w0 β d h a w->exec P S F x o d h (λA y f=>K (d.put o.dst A y) f) E->wpOp P j Q i next a w:=by
  intro d C m u;unfold wpOp;simp only[L,C,if_true];exact .inl (run d m u)
 have v:∀ d,Region.wanted o (yielded j a.tmps)=false->Rel D n h0 w0 β d h a w->K (d.put o.dst (.v undef) none) h->wpOp P j Q i next a w:=by
  intro d C m u;unfold wpOp;simp only[L,C,Bool.false_eq_true,if_false];exact skip d m u
 unfold o9 guardOf at b;cases g:o.guard with
 | none =>
  simp only[g]at b;exact G e (by simp[Region.wanted,g]) r b
 | some X =>
  obtain⟨W,N⟩:=X;simp only[g,qK,Array.getElem?_toList]at b;cases s:j[W]? with
  | none =>
   simp only[s]at b;exact v e (by simp[Region.wanted,g,yielded,s]) r b
  | some Y =>
   simp only[s]at b;cases t:Y.dst with
   | none =>
    simp only[t]at b;exact v e (by simp[Region.wanted,g,yielded,s,t]) r b
   | some ab =>
    simp only[t]at b;split at b
    ·rename_i aa p;have z:=zP r s t p;rcases vc b with ⟨rfl,b⟩|⟨rfl,b⟩
     ·cases N with
      | true=>exact G _ (by simp[Region.wanted,g,z]) (r.known p) b
      | false=>exact v _ (by simp[Region.wanted,g,z]) (r.known p) b
     cases N with
     | true=>exact v _ (by simp[Region.wanted,g,z]) (r.known p) b
     | false=>exact G _ (by simp[Region.wanted,g,z]) (r.known p) b
    ·rename_i vs p;exact v e (by simp[Region.wanted,g,wq r s t p]) r b
    exact b.elim
theorem rH (p:dJ P S) {F:Fs} {f:Array Oper} (q:∀ o∈f.toList,∀ i,o.dst=some i->i < n) {K:Env->Heap->Prop} {E:List PanicEntry->Heap->Prop} {Q:Exit->Act->World->Prop}
  (s:∀ e' d g b w',K e' d->Rel D n h0 w0 g e' d b w'->Q .normal b w')
  (m:∀ c d b w',E c d->cQ h0 w0 d w'->b.defers=D->Q (.panic c) b w') :
  ∀(l:List Oper) (k:Nat) (e:Env) (h:Heap) (β:Nat->Nat) (a:Act) (w:World),(∀ j,l[j]? = f[k+j]?)->Rel D n h0 w0 β e h a w ->
   DD P S F f.toList K E l e h->wpOps P f Q (List.range' k l.length) a w
 | [],k,e,h,β,a,w,_,r,hx=>s _ _ β _ _ hx r
 | o::l,k,e,h,β,a,w,hl,r,hx=>by
  have h0:f[k]? = some o:=by simpa using (hl 0).symm
  rw[List.length_cons,List.range'_succ,wpOps_cons];refine rG p h0 r (q o (by rw[<-Array.getElem?_toList]at h0;exact List.mem_of_getElem? h0)) hx (λe' d g b w' t u=>?_) m;exact rH p q s m l (k+1) e' d g b w' (λj=>by have:=hl (j+1);simpa [Nat.add_assoc,Nat.add_comm 1 j]using this) u t
def Code.jr (n:Nat):Code->Bool
 | .region _ f _=>f.toList.all λo=>match o.dst with|some d=>Nat.blt d n|none=>true
 | .seq a b=>Code.jr n a&&Code.jr n b
 | .cond _ a b=>Code.jr n a&&Code.jr n b
 | .block _ c=>Code.jr n c
 | .loop c=>Code.jr n c
 | .scope c=>Code.jr n c
 | _=>true
theorem zQ {n:Nat} {c:Array Oper} (i:(c.toList.all λo=>match o.dst with|some d=>Nat.blt d n|none=>true)=true):∀ o∈c.toList,∀ b,o.dst=some b->b < n:=by
 intro o g d f;have:=List.all_eq_true.1 i o g;simp only[f]at this;exact Nat.le_of_ble_eq_true this
def JA (P:Program) (S:lD) (F:Fs) (n:Nat) (id:Nat) (f:Array Oper):Prop :=
 ∀(D:List Deferred) (K:Env->Heap->Prop) (E:List PanicEntry->Heap->Prop) (Q:Exit->Act->World->Prop) (h0:Heap) (w0:World) (β:Nat->Nat) (e:Env) (h:Heap) (a:Act) (w:World),
  drawn P S F id f.toList K E e h->Rel D n h0 w0 β e h a w->(∀ i c j b d,K i c->Rel D n h0 w0 j i c b d->Q .normal b d) ->
  (∀ g c b d,E g c->cQ h0 w0 c d->b.defers=D->Q (.panic g) b d)->wpAny P .any f Q f.size (Array.replicate f.size false) a w
def Code.ij (P:Program) (S:lD) (F:Fs) (n:Nat):Code->Prop
 | .region id d true=>JA P S F n id d
 | .seq a b=>Code.ij P S F n a/\Code.ij P S F n b
 | .cond _ a b=>Code.ij P S F n a/\Code.ij P S F n b
 | .block _ c=>Code.ij P S F n c
 | .loop c=>Code.ij P S F n c
 | .scope c=>Code.ij P S F n c
 | _=>True
def L8 (D:List Deferred) (n:Nat) (h0:Heap) (w0:World) (K:Ex->Env->Heap->Prop):Exit->Act->World->Prop
 | .normal,a,w=>∃ β e h,K .normal e h/\Rel D n h0 w0 β e h a w
 | .exit i,a,w=>∃ β e h,K (.exit i) e h/\Rel D n h0 w0 β e h a w
 | .ret,a,w=>∃ β e h,K .ret e h/\Rel D n h0 w0 β e h a w
 | .panic c,a,w=>∃ e h,K (.nT c) e h/\cQ h0 w0 h w/\a.defers=D
 | .goto _,_,_=>False
 | .outgrown,_,_=>False
theorem td (f:Nat->Slot) (t:Nat):∀ b:List Nat,qD b (b.map f) t=f t\/qD b (b.map f) t=.x
 | []=>.inr rfl
 | i::b=>by
  simp only[List.map_cons,qD];split
  ·rename_i c;subst c;exact .inl rfl
  exact td f t b
theorem nC (f:Nat->Option (List Value)) (t:Nat):∀ b:List Nat,A6 b (b.map f) t=if b.contains t then f t else none
 | []=>rfl
 | i::b=>by
  simp only[List.map_cons,A6];by_cases c:t=i
  ·subst c;simp
  rw[if_neg c,nC f t b];simp[c]
theorem Rel.narrow (r:Rel D n h0 w0 β e h a w) (c b:List Nat):Rel D n h0 w0 β (sX c b (c.map e.s) (b.map e.b)) h a w where
 size:=r.size
 zx:=r.zx
 slot t:=by
  have d:∀ u,(sX c b (c.map e.s) (b.map e.b)).b u=if b.contains u then e.b u else none:=λu=>nC e.b u b
  show jo β _ ((qD c (c.map e.s) t).clean b) _;have f:=r.slot t;rcases td e.s t c with i|i
  ·rw[i];revert f
   cases e.s t with
   | v x=>exact id
   | x=>exact id
   | l u j =>
    intro f;simp only[Slot.clean];split
    ·rename_i g;exact⟨f.1,by rw[d,if_pos g];exact f.2⟩
    trivial
   | r u k =>
    intro f;simp only[Slot.clean];split
    ·rename_i g;exact⟨f.1,by rw[d,if_pos g];exact f.2⟩
    trivial
  rw[i];trivial
 box t cs d:=by
  have:(sX c b (c.map e.s) (b.map e.b)).b t=if b.contains t then e.b t else none:=nC e.b t b
  rw[this]at d;split at d
  ·exact r.box t cs d
  cases d
 inj t u ht hu Lq:=by
  have d:∀ u,(sX c b (c.map e.s) (b.map e.b)).b u=if b.contains u then e.b u else none:=λu=>nC e.b u b
  rw[d]at ht hu;refine r.inj t u ?_ ?_ Lq
  ·split at ht
   ·exact ht
   cases ht
  split at hu
  ·exact hu
  cases hu
 mv:=r.mv
theorem DI {c:Code} {Q:Exit->Act->World->Prop} (I:Nat->Act->World->Prop) (F:Nat) (B:I F a w)
  (H:∀ k a w,I k a w->c.wp P (Exit.then (λf w'=>∃ m,m < k/\I m f w') Q) a w):(Code.loop c).wp P Q a w:=by
 intro p k q;have G:∀ j a w,I j a w->∃ e f w',Q e f w'/\Arrives P (lone (p.at a (.code c::.inLoop c::k)) q w) p k q e f w':=by
  intro j;induction j using Nat.strongRecOn with
  | _ j C =>
   intro a w u;obtain⟨e,g,i,d,b⟩:=H j a w u p (.inLoop c::k) q;cases e with
   | normal =>
    obtain⟨m,z,v⟩:=d;obtain⟨t,s,J,A,y⟩:=C m z g i v;exact⟨t,s,J,A,.of_steps (Steps.trans b (.one step_inLoop)) y⟩
   | exit id=>exact⟨_,g,i,d,.pass (x:=.inLoop c) rfl (λ_ _=>.inl Z) b⟩
   | goto l=>exact⟨_,g,i,d,.pass (x:=.inLoop c) rfl (λ_ _=>.inl Z) b⟩
   | ret=>exact⟨_,g,i,d,.pass (x:=.inLoop c) rfl (λ_ _=>.inl Z) b⟩
   | panic L=>exact⟨_,g,i,d,.pass (x:=.inLoop c) rfl (λ_ _=>.inl Z) b⟩
   | outgrown=>exact⟨_,g,i,d,.pass (x:=.inLoop c) rfl (λ_ _=>.inl Z) b⟩
 obtain⟨e,f,w',d,b⟩:=G _ a w B;exact⟨e,f,w',d,.of_steps (.one step_loop) b⟩
theorem Cg (I:dJ P S) (F:Fs):∀(c:Code) (K:Ex->Env->Heap->Prop) (β:Nat->Nat) (e:Env) (h:Heap) (a:Act) (w:World),
  Code.jr n c=true->Code.ij P S F n c->den P S F c K e h->Rel D n h0 w0 β e h a w->c.wp P (L8 D n h0 w0 K) a w:=by
 intro c;induction c with
 | skip=>intro K β e h a w _ _ b r;exact wp_skip ⟨β,e,h,b,r⟩
 | label l=>intro K β e h a w _ _ b r;exact wp_label ⟨β,e,h,b,r⟩
 | exit v=>intro K β e h a w _ _ b r;exact wp_exit ⟨β,e,h,b,r⟩
 | ret=>intro K β e h a w _ _ b r;exact wp_ret ⟨β,e,h,b,r⟩
 | region id ops M =>
  intro K β e h a w f i b r;cases M with
  | false =>
   simp only[den]at b;refine wp_region ?_;have:=rH (Q:=L8 D n h0 w0 K) I (zQ f) (λj g q s t m p=>⟨q,j,g,m,p⟩) (λc g s t A B z=>⟨e,g,A,B,z⟩) ops.toList 0 e h β a w (λaf=>Z) r b;rw[List.range_eq_range'];simpa using this
  | true =>
   simp only[den]at b;refine wp_region_any I.mix ?_;exact i _ _ _ _ h0 w0 β e h a _ b ⟨r.size,r.zx,r.slot,r.box,r.inj,⟨r.mv.view,r.mv.aK,r.mv.sB,r.mv.size,r.mv.fz,r.mv.out⟩⟩ (λj g q s t m p=>⟨q,j,g,m,p⟩) (λc g s t A B z=>⟨e,g,A,B,z⟩)
 | seq c1 c2 V9 Wa =>
  intro K β e h a w f i b r;simp only[Code.jr,Bool.and_eq_true]at f;refine wp_seq (wp_mono (V9 _ β e h a w f.1 i.1 b r) ?_);intro u s t d;cases u with
  | normal=>obtain⟨q,j,g,m,p⟩:=d;exact Wa K q j g s t f.2 i.2 m p
  | exit v=>exact d
  | ret=>exact d
  | panic G=>exact d
  | goto l=>exact d
  | outgrown=>exact d
 | cond c ah ab Wb Wc =>
  intro K β e h a w f i b r;simp only[Code.jr,Bool.and_eq_true]at f;simp only[den]at b;split at b
  ·rename_i ag Y;refine wp_cond (r.eval Y) ?_;rcases vc b with ⟨rfl,b⟩|⟨rfl,b⟩
   ·exact Wb K β e h a w f.1 i.1 b r
   exact Wc K β e h a w f.2 i.2 b r
  exact b.elim
 | block id c x =>
  intro K β e h a w f i b r;refine wp_block (wp_mono (x _ β e h a w f i b r) ?_);intro u s t d;cases u with
  | normal=>exact d
  | exit v =>
   obtain⟨q,j,g,m,p⟩:=d;simp only[Exit.inBlock];by_cases y:v=id
   ·rw[if_pos y];have:Nat.beq v id=true:=by rw[y];exact Nat.beq_refl id
    simp only[this]at m;exact⟨q,j,g,m,p⟩
   rw[if_neg y];have:Nat.beq v id=false:=by
    cases T:Nat.beq v id with
    | true=>exact absurd (Nat.eq_of_beq_eq_true T) y
    | false=>rfl
   simp only[this]at m;exact⟨q,j,g,m,p⟩
  | ret=>exact d
  | panic G=>exact d
  | goto l=>exact d
  | outgrown=>exact d
 | loop c x =>
  intro K β e h a w f i b r;simp only[den]at b;rw[DA]at b;unfold OD at b;obtain⟨J,C,Inv,⟨k,V⟩,X⟩:=b;refine DI (λk a w=>∃ β e h,Inv k (J.map e.s) (C.map e.b) h/\Rel D n h0 w0 β e h a w) k ⟨β,e,h,V,r⟩ ?_;rintro k1 L w1 ⟨Wd,e1,H,N,r1⟩;refine wp_mono (x _ Wd _ H L w1 f i (X k1 _ _ H N) (r1.narrow J C)) ?_;intro u s t d;cases u with
  | normal=>obtain⟨q,j,g,⟨aa,W,R⟩,p⟩:=d;exact⟨aa,W,q,j,g,R,p⟩
  | exit v=>exact d
  | ret=>exact d
  | panic G=>exact d
  | goto l=>exact d
  | outgrown=>exact d
 | scope c x =>
  intro K β e h a w f i b r;refine wp_scope_straight (wp_mono (x K β e h a w f i b r) ?_);intro u s t d;cases u with
  | goto l=>exact d.elim
  | _=>exact d
 | goto l=>intro K β e h a w _ _ b r;exact b.elim
 | refuse ab=>intro K β e h a w _ _ b r;exact b.elim
 | rangeFunc ae ps as ad _ _=>intro K β e h a w _ _ b r;exact b.elim
def kD (args:List Value):Env:=⟨λt=>match args[t]? with|some v=>.v v|none=>.v undef,λ_=>none⟩
def jU (S:lD) (e:Env) (h:Heap):List ResultVar->(List Value->Prop)->Prop
 | [],K=>K []
 | .tmp t::r,K=>match e.s t with
  | .v v=>jU S e h r λb=>K (v::b)
  | _=>False
 | .cell t ty::r,K=>match S.ty.find ty with
  | some c=>load c (e.s t) e h λs _ _=>match s with
   | .v v=>jU S e h r λb=>K (v::b)
   | _=>False
  | none=>False
def qL (K:Value->Prop):List Value->Prop
 | [v]=>K v
 | vs=>K (.tuple ⟨vs⟩)
def Fin (S:lD) (res:List ResultVar) (R:Out->Heap->Prop):Ex->Env->Heap->Prop
 | .normal,e,h=>jU S e h res λb=>qL (λv=>R (.ret v) h) b
 | .ret,e,h=>jU S e h res λb=>qL (λv=>R (.ret v) h) b
 | .exit _,_,_=>False
 | .nT c,_,h=>R (.nT c) h
theorem Ch {d:Func} {args:List Value} (m:args.length<=d.ntmps) (j:∀ b o,h b=some o->w.heap[b]? = some o) :
  Rel [] d.ntmps h w (λ_=>0) (kD args) h {tmps:=args.toArray++Array.replicate (d.ntmps-args.toArray.size) undef,defers:=[]} w where
 size:=by simp;omega
 zx:=rfl
 slot t:=by
  simp only[kD];cases c:args[t]? with
  | some v =>
   obtain⟨i,f⟩:=List.getElem?_eq_some_iff.1 c;show _=v;simp[Array.getD_eq_getD_getElem?,Array.getElem?_append,i,f]
  | none =>
   have g:args.length<=t:=by simpa using c
   show _=undef;rw[Array.getD_eq_getD_getElem?,Array.getElem?_append_right (by simpa using g),Array.getElem?_replicate];split<;>rfl
 box t cs hb:=by simp[kD]at hb
 inj t u c:=by simp[kD]at c
 mv:=cQ.refl j
theorem j9 (g:dJ P S) (r:Rel D n h0 w0 β e h a w):∀(res:List ResultVar) (K:List Value->Prop),jU S e h res K ->
  ∃ vs,K vs/\(res.mapM (m:=Sem) fun
   | .tmp t=>pure (a.tmps.getD t undef)
   | .cell x t=>do loadVar t (<-asAddr (a.tmps.getD x undef))).run P w=.ok vs w
 | [],K,hx=>⟨[],hx,rfl⟩
 | .tmp t::res,K,hx=>by
  simp only[jU]at hx;split at hx
  ·rename_i v u;obtain⟨vs,d,f⟩:=j9 g r res _ hx;refine⟨v::vs,d,?_⟩;have i:=r.slot t;rw[u]at i;rw[List.mapM_cons];simp only[Sem.run_bind,Sem.run_pure,Result.andThen_ok,f];rw[show a.tmps.getD t undef=v from i]
  exact hx.elim
 | .cell t ty::res,K,hx=>by
  simp only[jU]at hx;split at hx
  ·rename_i y s;obtain⟨b,v,c,j,p⟩:=uY (x:=.tmp t) g r s hx;obtain⟨vs,d,f⟩:=j9 g r res _ p;refine⟨v::vs,d,?_⟩;have c:a.tmps.getD t undef=.pointer (some b):=c;rw[List.mapM_cons];have q:(asAddr (.pointer (some b))).run P w=.ok b w:=rfl;simp only[Sem.run_bind,c,q,Sem.run_pure,Result.andThen_ok,j,f]
  exact hx.elim
theorem n7 (g:dJ P S) (r:Rel D n h0 w0 β e h a w) {c:Func} {R:Out->Heap->Prop} (j:jU S e h c.results.toList λvs=>qL (λv=>R (.ret v) h) vs) :
  ∃ v,(results c a.tmps).run P w=.ok v w/\R (.ret v) h:=by
 obtain⟨vs,b,f⟩:=j9 g r _ _ j;have i:(results c a.tmps).run P w=.ok (if h:vs.toArray.size=1 then vs.toArray[0]else .tuple vs.toArray) w:=by
  unfold results;rw[Array.mapM_eq_mapM_toList];simp only[Sem.run_bind,Sem.run_map,Sem.run_pure];exact(congrArg (λr:Result (List Value)=>(r.andThen λa d=>Result.ok a.toArray d).andThen λa d=>Result.ok (if h:a.size=1 then a[0]else Value.tuple a) d) f).trans rfl
 refine⟨_,i,?_⟩;match vs,b with
 | [],b=>simpa [qL]using b
 | [v],b=>simpa [qL]using b
 | u::v::r,b=>simpa [qL]using b
theorem wu (q:dJ P S) (F:Fs) {f:FuncId} {g:Func} {c:Code} {args:List Value} {R:Out->Heap->Prop} (z:P.funcs[f]? = some g) (x:g.body=some c) (A:args.length<=g.ntmps)
  (y:Code.jr g.ntmps c=true) (B:Code.ij P S F g.ntmps c) (G:den P S F c (Fin S g.results.toList R) (kD args) h):eY P f args h R:=by
 intro w C;refine calls_of_wp z x (wp_mono (Cg q F c _ _ _ _ _ _ y B G (Ch A C)) ?_);intro s H L j;cases s with
 | normal=>obtain⟨β,e,i,d,b⟩:=j;obtain⟨v,m,p⟩:=n7 q b d;exact⟨b.zx,v,m,i,b.mv,p⟩
 | ret=>obtain⟨β,e,i,d,b⟩:=j;obtain⟨v,m,p⟩:=n7 q b d;exact⟨b.zx,v,m,i,b.mv,p⟩
 | exit J=>obtain⟨β,e,i,d,b⟩:=j;exact d.elim
 | panic I=>obtain⟨e,i,d,u,t⟩:=j;exact⟨t,i,u,d⟩
 | goto l=>exact j.elim
 | outgrown=>exact j.elim
set_option linter.unusedSimpArgs false
variable {D:List Deferred} {P:Program} {S:lD} {F:Fs} {o:Oper} {e:Env} {h:Heap} {K:Slot->Bx->Heap->Prop} {E:List PanicEntry->Heap->Prop}
theorem Heap.le_refl (h:Heap):h.le h:=λ_ _ x=>x
theorem Heap.le_trans {a b c:Heap} (x:a.le b) (y:b.le c):a.le c:=λk o d=>y k o (x k o d)
theorem Heap.wv {b:Nat} (o:Obj) (d:h b=none):h.le (h.set b o):=by
 intro g x c;simp only[Heap.set];split
 ·rename_i f;subst f;rw[d]at c;cases c
 exact c
theorem iu {d:TI} {v:Value} {f:List Value->Prop} (b:iU d v f):∃ vs,f vs/\∀ Kd:List Value->Prop,Kd vs->iU d v Kd:=by
 unfold iU at b ⊢;cases g:d.agg with
 | true =>
  simp only[g]at b;cases v with
  | agg j =>
   simp only[bF]at b ⊢;split at b
   ·rename_i i;exact⟨_,b,λKd c=>by (try simp only[i]);exact c⟩
   exact b.elim
  | _=>exact b.elim
 | false =>
  simp only[g]at b;simp only;split at b
  ·exact⟨_,b,λKd c=>c⟩
  exact b.elim
theorem kE {g:Nat->Option TI}:∀(c:List (Nat × Operand)) (Kp:List (Nat × List Value)->Prop),parts e g c Kp ->
  ∃ f,Kp f/\∀ Kd:List (Nat × List Value)->Prop,Kd f->parts e g c Kd
 | [],Kp,b=>⟨[],b,λ_ d=>d⟩
 | (i,x)::c,Kp,b=>by
  simp only[parts]at b;split at b
  ·rename_i v s q p;obtain⟨t,b,j⟩:=iu b;obtain⟨f,b,m⟩:=kE c _ b;refine⟨_,b,λKd d=>?_⟩;simp only[parts,q,p];exact j _ (m _ d)
  exact b.elim
theorem kF:∀(xs:List Operand) (c:List Value->Prop),bp e xs c->∃ vs,c vs/\∀ Kd:List Value->Prop,Kd vs->bp e xs Kd
 | [],c,b=>⟨[],b,λ_ d=>d⟩
 | x::xs,c,b=>by
  simp only[bp]at b;split at b
  ·rename_i v g;obtain⟨vs,b,f⟩:=kF xs _ b;exact⟨_,b,λKd d=>by simp only[bp,g];exact f _ d⟩
  exact b.elim
theorem Gv {a:Option Addr} {cap l i:Nat} {g:Option Addr->Prop} (c:Sub a cap l i g):∃ d,g d/\∀ Kd:Option Addr->Prop,Kd d->Sub a cap l i Kd:=by
 rw[vW]at c ⊢;unfold DB at c ⊢;by_cases b:cap=l
 ·exact⟨a,c a (λq=>absurd b q) (λ_=>rfl),λKd f d _ m=>by rw[m b];exact f⟩
 exact⟨_,c _ (λ_=>rfl) (λp=>absurd p b),λKd f d j _=>by rw[j b];exact f⟩
theorem rI {g:Nat} {a:Option Addr} {cap H:Nat} {f:Option Slot} {d:Value->Prop} (b:lH g a cap f H d):∃ v,d v/\∀ Kd:Value->Prop,Kd v->lH g a cap f H Kd:=by
 unfold lH at b ⊢;split at b
 ·exact⟨_,b,λ_ c=>c⟩
 ·obtain⟨i,b⟩:=cC.1 b;obtain⟨m,b,j⟩:=Gv b;exact⟨_,b,λKd c=>cC.2 ⟨i,j _ c⟩⟩
 exact b.elim
theorem rJ {g:Nat} {a:Option Addr} {n cap:Nat} {f d:Option Slot} {c:Value->Prop} (b:lI g a n cap f d c):∃ v,c v/\∀ Kd:Value->Prop,Kd v->lI g a n cap f d Kd:=by
 unfold lI at b ⊢;split at b
 ·exact rI b
 ·obtain⟨i,b⟩:=cC.1 b;obtain⟨v,b,j⟩:=rI b;exact⟨v,b,λKd m=>cC.2 ⟨i,j Kd m⟩⟩
 exact b.elim
theorem Gw {t:TypeId} {d:List (Nat × Operand)} {c:Value->Prop} (b:Jk S t d e c):∃ v,c v/\∀ Kd:Value->Prop,Kd v->Jk S t d e Kd:=by
 unfold Jk at b ⊢;split at b
 ·rename_i u m;split at b
  ·exact b.elim
  rename_i q x j;obtain⟨s,b,f⟩:=kE _ _ b;split at b
  ·rename_i p g;rw[bF]at b;refine⟨_,b,λKd i=>?_⟩;try simp only[m,j]
   refine f _ ?_;simp only[g,bF];exact i
  exact b.elim
 exact b.elim
theorem tg {f:BinOp} {k:IntKind} {m n:Int} {g:Value->Prop} (b:qE f k m n g False):∃ v,g v/\∀ Kd:Value->Prop,Kd v->qE f k m n Kd False:=by
 cases f<;>simp only[qE]at b ⊢<;>first
  | exact b.elim
  | exact⟨_,b,λ_ c=>c⟩
  | exact⟨_,fX.1 b,λ_ c=>fX.2 c⟩
  | (obtain⟨d,b⟩:=cC.1 b;exact⟨_,fX.1 b,λ_ c=>cC.2 ⟨d,fX.2 c⟩⟩)
  | (obtain⟨d,b⟩:=cC.1 b;exact⟨_,b,λ_ c=>cC.2 ⟨d,c⟩⟩)
inductive dB where
 | P|L|R|X|A|W
def cls (F:Fs) (o:Oper):dB :=
 match o.op with
 | .alloc _ | .box .. | .buildSlice ..=>match Du F.L o.dst with
  | true=>.P
  | false=>.X
 | .load ..=>match Du F.LL o.dst with
  | true=>.L
  | false=>.R
 | .makeSlice ..=>.X
 | .call {callee:=.value f,.. }=>match Jj F f with
  | true=>.A
  | false=>.X
 | .call {callee:=.builtin .append,.. }=>.A
 | op=>match DC op with
  | true=>.W
  | false=>.P
theorem xZ {d:Option Nat} (b:Du F.L d=true):∃ c,isLocal F d=some c/\d=some c:=by
 cases d with
 | none=>cases b
 | some d=>simp only[Du]at b;exact⟨d,by simp[isLocal,b],rfl⟩
theorem th {t:TypeId} {d:Option Nat} {cs:List Value} (p:Du F.L d=true) (b:newVar F t d cs e h K) :
  ∃ s g,K s g h/\∀(f:Heap) (c:Slot->Bx->Heap->Prop),c s g f->newVar F t d cs e f c:=by
 obtain⟨q,i,u⟩:=xZ p;unfold newVar at b ⊢;simp only[i]at b ⊢;split at b
 ·rename_i j;rw[bF]at b;exact⟨_,_,b,λf c m=>by simp only[j,bF];exact m⟩
 exact b.elim
theorem zR {t:TypeId} {d:Option Nat} {n:Nat} {cs:List Value} (p:Du F.L d=true) (b:newRow F t d n cs e h K) :
  ∃ s g,K s g h/\∀(f:Heap) (c:Slot->Bx->Heap->Prop),c s g f->newRow F t d n cs e f c:=by
 obtain⟨q,i,u⟩:=xZ p;unfold newRow at b ⊢;simp only[i]at b ⊢;split at b
 ·rename_i j;rw[bF]at b;exact⟨_,_,b,λf c m=>by simp only[j,bF];exact m⟩
 exact b.elim
theorem ve {i:TI} {u off:Nat} (b:load i (.l u off) e h K):∃ s,K s none h/\∀(f:Heap) (d:Slot->Bx->Heap->Prop),d s none f->load i (.l u off) e f d:=by
 unfold load at b ⊢;simp only at b ⊢;split at b
 ·rename_i m j;try simp only[j]
  split at b
  ·rename_i g;rw[bF]at b;exact⟨_,b,λf d c=>by first|exact(bF _ _).2 c|(simp only[g,bF];exact c)⟩
  rename_i g;split at b
  ·exact⟨_,b,λf d c=>by first|exact c|(simp only[g];exact c)⟩
  exact b.elim
 exact b.elim
theorem eT {d:Heap} (j:h.le d) {b:Nat}:∀(n off:Nat) (vs:List Value),dP h b off n=some vs->dP d b off n=some vs:=by
 have m:∀ off v,rd h b off=some v->rd d b off=some v:=by
  intro off v c;unfold rd at c ⊢;cases f:h b with
  | none=>rw[f]at c;cases c
  | some o=>rw[f]at c;rw[j b o f];exact c
 intro n;induction n with
 | zero=>intro off vs c;exact c
 | succ n p =>
  intro off vs c;simp only[dP]at c ⊢;split at c
  ·rename_i v r g i;rw[m _ _ g,p _ _ i];exact c
  cases c
theorem x5 {u:TI} {x:Slot} (c:load u x e h K):∃ s,K s none h/\∀(d:Heap) (f:Slot->Bx->Heap->Prop),h.le d->f s none d->load u x e d f:=by
 cases x with
 | l B t =>
  obtain⟨s,i,q⟩:=ve c;exact⟨s,i,λd f _ g=>q d f g⟩
 | r B k=>exact c.elim
 | x=>exact c.elim
 | v v =>
  unfold load at c ⊢;split at c
  ·rename_i m;cases m
  ·rename_i b t m;cases m
   split at c
   ·rename_i j;rw[oY]at c;unfold zC at c;obtain⟨C,A,c⟩:=c;refine⟨_,c,λd f p g=>?_⟩;try simp only[j]
    rw[oY];unfold zC;exact⟨C,eT p _ _ _ A,g⟩
   rename_i j;split at c
   ·rename_i y;rw[sW]at c;unfold Ji at c;obtain⟨v,z,c⟩:=c;refine⟨_,c,λd f p g=>?_⟩;try simp only[j,y]
    rw[sW];unfold Ji;have:=eT p (b:=b) 1 t [v] (by simp[dP,z]);simp only[dP]at this;split at this
    ·rename_i G r i q;simp only[Option.some.injEq,List.cons.injEq]at this;exact⟨v,by rw[i,this.1],g⟩
    cases this
   exact c.elim
  exact c.elim
theorem x6 (b:uI P o e h true K):∃ v,K (.v v) none h/\∀(d:Heap) (c:Slot->Bx->Heap->Prop),c (.v v) none d->uI P o e d true c:=by
 unfold uI at b;rw[o7]at b;unfold uW at b;obtain⟨j,v,f,i⟩:=b;exact⟨v,f,λd c g=>by unfold uI;rw[o7];unfold uW;exact⟨j,v,g,i⟩⟩
theorem DJ {e':Env} (d:∀ y∈o.op.operands,e'.get y=e.get y) (c:uI P o e h true K):uI P o e' h true K:=by
 unfold uI at c ⊢;rw[o7]at c ⊢;unfold uW at c ⊢;obtain⟨i,v,f,g⟩:=c;exact⟨λx b=>by rw[d x b];exact i x b,v,f,λm j w=>g m (λx b=>by rw[<-d x b];exact j x b) w⟩
theorem DK (i:cls F o=.P\/cls F o=.L) (b:exec P S F true o e h K E) :
  ∃ s x,K s x h/\∀(m:Heap) (j:Slot->Bx->Heap->Prop) (p:List PanicEntry->Heap->Prop),j s x m->exec P S F true o e m j p:=by
 obtain⟨I,X,ty,pos,after,guard⟩:=o;cases X with
 | move y =>
  simp only[exec]at b ⊢;cases d:e.get y<;>simp only[d]at b<;>first|exact b.elim|exact⟨_,_,b,λ_ _ _ c=>c⟩
 | assign y =>
  simp only[exec]at b ⊢;cases d:e.get y<;>simp only[d]at b<;>first|exact b.elim|exact⟨_,_,b,λ_ _ _ c=>c⟩
 | pick N y H =>
  simp only[exec]at b ⊢;split at b
  ·rename_i t ht;cases t with
   | true =>
    have b:(match e.get y with | .x=>False|s=>K s none h):=b;cases d:e.get y<;>simp only[d]at b<;>first|exact b.elim|exact⟨_,_,b,λ_ _ _ c=>by (try simp only[ht,d]);exact c⟩
   | false =>
    have b:(match e.get H with | .x=>False|s=>K s none h):=b;cases d:e.get H<;>simp only[d]at b<;>first|exact b.elim|exact⟨_,_,b,λ_ _ _ c=>by (try simp only[ht,d]);exact c⟩
  exact b.elim
 | alloc t =>
  have z:Du F.L I=true:=by
   simp only[cls]at i;split at i
   ·assumption
   simp at i
  simp only[exec]at b ⊢;split at b
  ·rename_i G f;obtain⟨s,x,g,v⟩:=th z b;exact⟨s,x,g,λm j p c=>by (try simp only[f]);exact v m j c⟩
  exact b.elim
 | box t y =>
  have z:Du F.L I=true:=by
   simp only[cls]at i;split at i
   ·assumption
   simp at i
  simp only[exec]at b ⊢;split at b
  ·rename_i A G W f;obtain⟨Q,b,T⟩:=iu b;obtain⟨s,x,g,v⟩:=th z b;exact⟨s,x,g,λm j p c=>by (try simp only[W,f]);exact T _ (v m j c)⟩
  exact b.elim
 | build t ps =>
  simp only[exec]at b ⊢;obtain⟨A,b,g⟩:=Gw b;exact⟨_,_,b,λm j p c=>g _ c⟩
 | buildSlice t k ps =>
  have z:Du F.L I=true:=by
   simp only[cls]at i;split at i
   ·assumption
   simp at i
  simp only[exec]at b ⊢;split at b
  ·rename_i R f;split at b
   ·rename_i te q;split at b
    ·rename_i hle;obtain⟨qs,b,T⟩:=kE _ _ b;split at b
     ·rename_i Q hcs;obtain⟨s,x,g,v⟩:=zR z b;refine⟨s,x,g,λm j p c=>?_⟩;try simp only[f,q,hle]
      refine T _ ?_;try simp only[hcs]
      exact v m j c
     exact b.elim
    exact b.elim
   exact b.elim
  exact b.elim
 | load t y =>
  have z:Du F.LL I=true:=by
   simp only[cls]at i;split at i
   ·assumption
   simp at i
  simp only[exec]at b ⊢;split at b
  ·rename_i G f;simp only[z]at b;split at b
   ·rename_i Y off d;obtain⟨s,g,v⟩:=ve b;exact⟨s,none,g,λm j p c=>by (try simp only[f,z,d]);exact v m j c⟩
   exact b.elim
  exact b.elim
 | nilCheck y =>
  simp only[exec]at b ⊢;split at b
  ·rename_i d;exact⟨_,_,b,λ_ _ _ c=>by (try simp only[d]);exact c⟩
  ·rename_i d;exact⟨_,_,b,λ_ _ _ c=>by (try simp only[d]);exact c⟩
  ·rename_i d;exact⟨_,_,b,λ_ _ _ c=>by (try simp only[d]);exact c⟩
  ·rename_i d;exact⟨_,_,b,λ_ _ _ c=>by (try simp only[d]);exact c⟩
  exact b.elim
 | binOp X t y H Y =>
  simp only[exec]at b ⊢;split at b
  ·rename_i ab L k M d u;split at b
   ·rename_i Lr;obtain⟨A,b,g⟩:=tg b;exact⟨_,_,b,λm j p c=>by (try simp only[d,u,Lr]);exact g _ c⟩
   exact b.elim
  ·rename_i B N d u;split at b
   ·rename_i f;split at b
    ·exact⟨_,_,b,λm j p c=>by (try simp only[d,u,f]);exact c⟩
    ·exact⟨_,_,b,λm j p c=>by (try simp only[d,u,f]);exact c⟩
    exact b.elim
   exact b.elim
  rename_i g v;obtain⟨A,b,g⟩:=x6 b;exact⟨_,_,b,λm j p c=>g m j c⟩
 | unOp X t y =>
  simp only[exec]at b ⊢;split at b
  ·rename_i B d;exact⟨_,_,b,λ_ _ _ c=>by (try simp only[d]);exact c⟩
  ·rename_i k M d;rw[fX]at b;exact⟨_,_,b,λ_ _ _ c=>by (try simp only[d,fX]);exact c⟩
  exact b.elim
 | convert s t y =>
  simp only[exec]at b ⊢;split at b
  ·rename_i G tj k M f Px d;split at b
   ·rename_i k' V;rw[fX]at b;exact⟨_,_,b,λ_ _ _ c=>by (try simp only[f,Px,d,V,fX]);exact c⟩
   exact b.elim
  exact b.elim
 | makeInterface t y =>
  simp only[exec]at b ⊢;split at b
  ·rename_i G A f d;split at b
   ·exact b.elim
   rename_i uD;refine⟨_,_,b,λ_ _ _ c=>?_⟩;try simp only[f,d]
   cases V:G.d<;>first|exact c|exact absurd V uD
  exact b.elim
 | makeFunc aa fs Q =>
  simp only[exec]at b ⊢;obtain⟨vs,b,g⟩:=kF _ _ b;obtain⟨us,b,v⟩:=kF _ _ b;exact⟨_,_,b,λ_ _ _ c=>g _ (v _ c)⟩
 | slice t y lo hi mx =>
  simp only[exec]at b ⊢;split at b
  ·rename_i R f;split at b
   ·rename_i te ad M cap q d;obtain⟨A,b,g⟩:=rJ b;exact⟨_,_,b,λm j p c=>by (try simp only[f,q,d]);exact g _ c⟩
   exact b.elim
  exact b.elim
 | fieldAddr t y L =>
  simp only[exec]at b ⊢;split at b
  ·rename_i fs f;split at b
   ·rename_i k Y C;split at b
    ·rename_i d;exact⟨_,_,b,λ_ _ _ c=>by (try simp only[f,C,d]);exact c⟩
    ·rename_i d;exact⟨_,_,b,λ_ _ _ c=>by (try simp only[f,C,d]);exact c⟩
    exact b.elim
   exact b.elim
  exact b.elim
 | field t y L =>
  simp only[exec]at b ⊢;split at b
  ·rename_i fs f;split at b
   ·rename_i k Y C;split at b
    ·rename_i Q tu d Jq;split at b
     ·rename_i vs Cf;cases J:tu.agg with
      | true =>
       simp only[J,bF]at b;exact⟨_,_,b,λ_ _ _ c=>by (try simp only[f,C,d,Jq,Cf,J,bF]);exact c⟩
      | false =>
       simp only[J]at b;split at b
       ·exact⟨_,_,b,λ_ _ _ c=>by (try simp only[f,C,d,Jq,Cf,J]);exact c⟩
       exact b.elim
     exact b.elim
    exact b.elim
   exact b.elim
  exact b.elim
 | indexAddr t y H =>
  simp only[exec]at b ⊢;split at b
  ·rename_i k L u;split at b
   ·rename_i R f;split at b
    ·rename_i q d;obtain⟨g,b⟩:=cC.1 b;rw[nu]at b;unfold xN at b;obtain⟨B,off,hp,b⟩:=b;exact⟨_,_,b,λ_ _ _ c=>by (try simp only[u,f,q,d]);exact cC.2 ⟨g,by rw[nu];unfold xN;exact⟨B,off,hp,c⟩⟩⟩
    ·rename_i q d;obtain⟨g,b⟩:=cC.1 b;exact⟨_,_,b,λ_ _ _ c=>by (try simp only[u,f,q,d]);exact cC.2 ⟨g,c⟩⟩
    exact b.elim
   ·rename_i R f;split at b
    ·rename_i q d;obtain⟨g,b⟩:=cC.1 b;exact⟨_,_,b,λ_ _ _ c=>by (try simp only[u,f,q,d]);exact cC.2 ⟨g,c⟩⟩
    ·rename_i q d;obtain⟨g,b⟩:=cC.1 b;exact⟨_,_,b,λ_ _ _ c=>by (try simp only[u,f,q,d]);exact cC.2 ⟨g,c⟩⟩
    exact b.elim
   exact b.elim
  exact b.elim
 | index t y H =>
  simp only[exec]at b ⊢;split at b
  ·rename_i d u;split at b
   ·rename_i f;obtain⟨g,b⟩:=cC.1 b;exact⟨_,_,b,λ_ _ _ c=>by (try simp only[d,u,f]);exact cC.2 ⟨g,c⟩⟩
   exact b.elim
  exact b.elim
 | extract y L =>
  simp only[exec]at b ⊢;split at b
  ·rename_i vs d;split at b
   ·rename_i A W;exact⟨_,_,b,λ_ _ _ c=>by (try simp only[d,W]);exact c⟩
   exact b.elim
  exact b.elim
 | call N =>
  obtain⟨callee,args,ts⟩:=N;cases callee with
  | value aa=>simp only[cls]at i;split at i<;>simp at i
  | invoke r M=>simp[cls,DC]at i
  | builtin B =>
   cases B with
   | len =>
    simp only[exec]at b ⊢;split at b
    ·rename_i y hargs;split at b
     ·rename_i d;split at b
      ·rename_i f;exact⟨_,_,b,λ_ _ _ c=>by (try simp only[hargs,d,f]);exact c⟩
      exact b.elim
     ·rename_i d;split at b
      ·rename_i f;exact⟨_,_,b,λ_ _ _ c=>by (try simp only[hargs,d,f]);exact c⟩
      exact b.elim
     exact b.elim
    exact b.elim
   | append=>simp[cls]at i
   | max =>
    simp only[exec]at b ⊢;split at b
    ·split at b
     ·split at b
      ·exact⟨_,_,b,λ_ _ _ c=>by first|exact c|(simp only[*];exact c)⟩
      exact b.elim
     exact b.elim
    exact b.elim
   | min =>
    simp only[exec]at b ⊢;split at b
    ·split at b
     ·split at b
      ·exact⟨_,_,b,λ_ _ _ c=>by first|exact c|(simp only[*];exact c)⟩
      exact b.elim
     exact b.elim
    exact b.elim
   | cap =>
    simp only[exec]at b ⊢;split at b
    ·split at b
     ·split at b
      ·exact⟨_,_,b,λ_ _ _ c=>by first|exact c|(simp only[*];exact c)⟩
      exact b.elim
     exact b.elim
    exact b.elim
   | _=>simp[cls,DC]at i
 | _=>simp[cls,DC]at i
def Slot.refs:Slot->Nat->Prop
 | .l t _,u=>t=u
 | .r t _,u=>t=u
 | _,_=>False
structure tn (F:Fs) (o:Oper) (e:Env) (h:Heap) (s:Slot) (bx:Bx) (h':Heap):Prop where
 fb:∀ u cs,bx=some (u,cs)->(o.dst=some u/\e.b u=none)\/(cls F o=.W/\∃ y∈o.op.operands,(e.get y).refs u)
 fs:∀ u,s.refs u->(∃ y∈o.op.operands,(e.get y).refs u)\/(∃ cs,bx=some (u,cs))
 le:cls F o≠.W->cls F o≠.A->h.le h'
structure Ip (F:Fs) (o:Oper) (e e':Env):Prop where
 get:∀ y∈o.op.operands,e'.get y=e.get y
 box:cls F o=.P\/∀ y∈o.op.operands,∀ u,(e.get y).refs u->e'.b u=e.b u
 dst:∀ d,o.dst=some d->e.b d=none->e'.b d=none
theorem tn.plain {x:Value}:tn F o e h (.v x) none h:=⟨(λ_ _ b=>by cases b),λ_ b=>b.elim,λ_ _=>Heap.le_refl h⟩
theorem tn.same {s:Slot} {y:Operand} (d:y∈o.op.operands) (c:e.get y=s):tn F o e h s none h :=
 ⟨(λ_ _ b=>by cases b),λu b=>.inl ⟨y,d,by rw[c];exact b⟩,λ_ _=>Heap.le_refl h⟩
theorem qM {e':Env} {d:Nat->Option TI}:∀(c:List (Nat × Operand)) (Kp:List (Nat × List Value)->Prop),(∀ p∈c,e'.get p.2=e.get p.2)->parts e d c Kp->parts e' d c Kp
 | [],Kp,_,b=>b
 | (i,x)::c,Kp,hg,b=>by
  simp only[parts,hg (i,x) Z]at b ⊢;split at b
  ·obtain⟨j,b,f⟩:=iu b;exact f _ (qM c _ (λp g=>hg p (by simp[g])) b)
  exact b.elim
theorem pE {e':Env}:∀(xs:List Operand) (b:List Value->Prop),(∀ x∈xs,e'.get x=e.get x)->bp e xs b->bp e' xs b
 | [],b,_,hx=>hx
 | x::xs,b,hg,hx=>by
  simp only[bp,hg x Z]at hx ⊢;split at hx
  ·exact pE xs _ (λy c=>hg y (by simp[c])) hx
  exact hx.elim
theorem rK {e':Env} {t:TypeId} {cs:List Value} {m:Slot->Bx->Heap->Prop} (u:∀ d,o.dst=some d->e.b d=none->e'.b d=none) (c:newVar F t o.dst cs e h K)
  (p:∀ s i j,K s i j->tn F o e h s i j->m s i j):newVar F t o.dst cs e' h m:=by
 unfold newVar at c ⊢;split at c
 ·rename_i d g;have g:=lJ g;split at c
  ·rename_i f;rw[bF]at c;simp only[u d g f,bF];exact p _ _ _ c ⟨λv x b=>by simp only[Option.some.injEq,Prod.mk.injEq]at b;exact .inl ⟨by rw[g,b.1],by rw[<-b.1];exact f⟩,λv b=>.inr ⟨_,by cases b;rfl⟩,λ_ _=>Heap.le_refl h⟩
  exact c.elim
 rw[lE]at c ⊢;unfold vU at c ⊢;intro q f;exact p _ _ _ (c q f) ⟨(λ_ _ b=>by cases b),λ_ b=>b.elim,λ_ _=>Heap.wv _ f⟩
theorem x8 {e':Env} {t:TypeId} {n:Nat} {cs:List Value} {m:Slot->Bx->Heap->Prop} (u:∀ d,o.dst=some d->e.b d=none->e'.b d=none) (c:newRow F t o.dst n cs e h K)
  (p:∀ s i j,K s i j->tn F o e h s i j->m s i j):newRow F t o.dst n cs e' h m:=by
 unfold newRow at c ⊢;split at c
 ·rename_i d g;have g:=lJ g;split at c
  ·rename_i f;rw[bF]at c;simp only[u d g f,bF];exact p _ _ _ c ⟨λv x b=>by simp only[Option.some.injEq,Prod.mk.injEq]at b;exact .inl ⟨by rw[g,b.1],by rw[<-b.1];exact f⟩,λv b=>.inr ⟨_,by cases b;rfl⟩,λ_ _=>Heap.le_refl h⟩
  exact c.elim
 rw[lE]at c ⊢;unfold vU at c ⊢;intro q f;exact p _ _ _ (c q f) ⟨(λ_ _ b=>by cases b),λ_ b=>b.elim,λ_ _=>Heap.wv _ f⟩
theorem x9 {e':Env} {d:TI} {x:Slot} (q:∀ u,x.refs u->e'.b u=e.b u) (b:load d x e h K):∃ v,K (.v v) none h/\∀ f:Slot->Bx->Heap->Prop,f (.v v) none h->load d x e' h f:=by
 cases x with
 | l u j =>
  have s:sY e' u j d.size=sY e u j d.size:=by unfold sY;rw[q u rfl]
  unfold load at b ⊢;simp only[s]at b ⊢;cases i:sY e u j d.size with
  | none=>rw[i]at b;exact b.elim
  | some p =>
   rw[i]at b;cases g:d.agg with
   | true =>
    simp only[g,bF]at b;exact⟨_,b,λf c=>by simp only[bF];exact c⟩
   | false =>
    simp only[g]at b;rcases p with _|⟨v,_|_⟩
    ·exact b.elim
    ·exact⟨_,b,λf c=>c⟩
    exact b.elim
 | r u k=>exact b.elim
 | x=>exact b.elim
 | v v =>
  obtain⟨B,z,A⟩:=x5 b;unfold load at b ⊢;split at b
  ·rename_i m;cases m
  ·rename_i y j m;cases m
   cases g:d.agg with
   | true =>
    simp only[g]at b;rw[oY]at b ⊢;unfold zC at b ⊢;obtain⟨p,i,b⟩:=b;exact⟨_,b,λf c=>⟨p,i,c⟩⟩
   | false =>
    simp only[g]at b;split at b
    ·rw[sW]at b ⊢;unfold Ji at b ⊢;obtain⟨v,t,b⟩:=b;exact⟨_,b,λf c=>⟨v,t,c⟩⟩
    exact b.elim
  exact b.elim
theorem Gx {e':Env} {f g:Value->Heap->Prop} (i:∀ y∈o.op.operands,e'.get y=e.get y) (d:Raw P o e h f) (q:∀ v c,f v c->g v c):Raw P o e' h g:=by
 rw[jS]at d ⊢;unfold uH at d ⊢;refine⟨λx b=>by rw[i x b];exact d.1 x b,λz t w s=>?_⟩;obtain⟨v,u,c,j,m,p⟩:=d.2 z (λx b=>by rw[<-i x b];exact t x b) w s;exact⟨v,u,c,j,m,q _ _ p⟩
theorem eY.mono {f:FuncId} {args:List Value} {R c:Out->Heap->Prop} (j:eY P f args h R) (g:∀ o b,R o b->c o b):eY P f args h c:=by
 intro w i;refine(j w i).mono ?_;rintro e p ⟨b,m,d⟩;refine⟨b,m,?_⟩;cases e<;>first|exact g _ _ d|exact d
theorem Ci {e':Env} {j:TI} {x:Slot} {v:Value} {f:Slot->Bx->Heap->Prop} (y:∀ u,x.refs u->e'.b u=e.b u) (b:store j x v e h K)
  (i:∀ s d g,K s d g->(s=.v undef/\∀ u cs,d=some (u,cs)->x.refs u)->f s d g):store j x v e' h f:=by
 unfold store at b ⊢;obtain⟨J,b,t⟩:=iu b;refine t _ ?_;split at b
 ·exact b.elim
 cases x with
 | l u z =>
  simp only at b ⊢;rw[y u rfl];split at b
  ·split at b
   ·rw[bF]at b;exact(bF _ _).2 (i _ _ _ b ⟨rfl,λI G c=>by simp only[Option.some.injEq,Prod.mk.injEq]at c;exact c.1⟩)
   exact b.elim
  exact b.elim
 | v v =>
  cases v with
  | pointer A =>
   rcases A with _|⟨C,z,_|H⟩
   ·exact b.elim
   ·simp only at b ⊢;rw[zE]at b ⊢;unfold LU at b ⊢;obtain⟨cs,B,m,p,q⟩:=b;exact⟨cs,B,m,p,i _ _ _ q ⟨rfl,(λ_ _ c=>by cases c)⟩⟩
   exact b.elim
  | _=>exact b.elim
 | _=>exact b.elim
theorem zS {e':Env} {f:Nat} {x:Slot} {d:Nat->List Value->Prop} (i:∀ u,x.refs u->e'.b u=e.b u) (b:appArg e f x h d) :
  ∃ m vs,d m vs/\∀ Kd:Nat->List Value->Prop,Kd m vs->appArg e' f x h Kd:=by
 unfold appArg at b ⊢;split at b
 ·rename_i v k;simp only[i v rfl];split at b
  ·split at b
   ·rename_i j;exact⟨_,_,b,λ_ c=>by (try simp only[j]);exact c⟩
   exact b.elim
  exact b.elim
 ·rw[oZ]at b ⊢;unfold zD at b ⊢;rcases b with ⟨s,b⟩|⟨g,t,vs,p,q,b⟩
  ·exact⟨_,_,b,λ_ c=>.inl ⟨s,c⟩⟩
  exact⟨_,_,b,λ_ c=>.inr ⟨g,t,vs,p,q,c⟩⟩
 exact b.elim
theorem App.mono {bytes x:Nat} {zero:List Value} {t:TypeId} {p:Option Addr} {n cap m:Nat} {vs:List Value} {j q:Value->Heap->Prop} (c:App bytes x zero t h p n cap m vs j) (i:∀ v u,j v u->q v u) :
  App bytes x zero t h p n cap m vs q:=by
 rw[lG]at c ⊢;unfold vV at c ⊢;refine⟨λhle=>?_,λG=>?_⟩
 ·obtain⟨d,b⟩:=c.1 hle;refine⟨d,?_⟩;rcases p with _|⟨s,J,_|L⟩
  ·exact⟨b.1,i _ _ b.2⟩
  ·obtain⟨z,I,f,g,A⟩:=b;exact⟨z,I,f,g,i _ _ A⟩
  exact b.elim
 obtain⟨d,b,H,f,g⟩:=c.2 G;exact⟨d,b,H,f,λs y B C=>i _ _ (g s y B C)⟩
theorem ya {x:Bool} {i:Value} {args:List Value} {g:Slot->Bx->Heap->Prop} (b:qF P S x i args h K E) (j:∀ s f d,K s f d->(∃ v,s=.v v)->f=none->(x=true->h.le d)->g s f d):qF P S x i args h g E:=by
 unfold qF at b ⊢;split at b
 ·split at b
  ·rw[bF]at b ⊢;cases x with
   | true =>
    simp only at b ⊢;rw[qC]at b ⊢;unfold sV at b ⊢;refine b.mono λo d c=>?_;cases o with
    | ret v=>exact⟨c.1,j _ _ _ c.2 ⟨v,rfl⟩ rfl (λ_=>c.1)⟩
    | nT m=>exact c
   | false =>
    simp only at b ⊢;rw[sU]at b ⊢;unfold xM at b ⊢;refine b.mono λo d c=>?_;cases o with
    | ret v=>exact j _ _ _ c ⟨v,rfl⟩ rfl (λh0=>by cases h0)
    | nT m=>exact c
  exact b.elim
 exact b.elim
theorem L9 {o:Oper} (b:DC o.op=true):cls F o=.W:=by
 obtain⟨j,g,ty,q,i,guard⟩:=o;cases g with
 | call d =>
  obtain⟨f,args,s⟩:=d;cases f with
  | value m=>cases b
  | invoke r p=>rfl
  | builtin c=>cases c<;>first|rfl|cases b
 | _=>first|rfl|cases b
theorem kG {e':Env} {J:Slot->Bx->Heap->Prop} (c:Ip F o e e') (b:exec P S F true o e h K E)
  (v:∀ s L B,K s L B->tn F o e h s L B->J s L B):exec P S F true o e' h J E:=by
 obtain⟨Q,R,ty,T,N,guard⟩:=o;have i:∀ A,K (.v A) none h->J (.v A) none h:=λA hv=>v _ _ _ hv tn.plain;have j:∀ W:Bool,W=DC R->(match true && !W with
  | true=>False
  | false=>Raw P ⟨Q,R,ty,T,N,guard⟩ e h λA B=>K (.v A) none B)->(match true && !W with
  | true=>False
  | false=>Raw P ⟨Q,R,ty,T,N,guard⟩ e' h λA B=>J (.v A) none B):=by
  intro W hW hr;cases W with
  | false=>exact hr
  | true =>
   refine Gx c.get hr λA B hv=>v _ _ _ hv ⟨(λ_ _ g=>by cases g),(λ_ g=>g.elim),λC _=>?_⟩;exact absurd (L9 hW.symm) C
 cases R with
 | move y =>
  have d:=c.get y (by simp[Op.operands]);simp only[exec,d]at b ⊢;cases m:e.get y<;>simp only[m]at b<;>first|exact b.elim|exact v _ _ _ b (tn.same (y:=y) (by simp[Op.operands]) m)
 | assign y =>
  have d:=c.get y (by simp[Op.operands]);simp only[exec,d]at b ⊢;cases m:e.get y<;>simp only[m]at b<;>first|exact b.elim|exact v _ _ _ b (tn.same (y:=y) (by simp[Op.operands]) m)
 | pick aa y z =>
  have We:=c.get aa (by simp[Op.operands]);have p:=c.get y (by simp[Op.operands]);have q:=c.get z (by simp[Op.operands]);simp only[exec,We,p,q]at b ⊢;split at b
  ·rename_i t ht;cases t with
   | true =>
    have b:(match e.get y with | .x=>False|s=>K s none h):=b;show(match e.get y with | .x=>False|s=>J s none h);cases m:e.get y<;>simp only[m]at b<;>first|exact b.elim|exact v _ _ _ b (tn.same (y:=y) (by simp[Op.operands]) m)
   | false =>
    have b:(match e.get z with | .x=>False|s=>K s none h):=b;show(match e.get z with | .x=>False|s=>J s none h);cases m:e.get z<;>simp only[m]at b<;>first|exact b.elim|exact v _ _ _ b (tn.same (y:=z) (by simp[Op.operands]) m)
  exact b.elim
 | alloc t =>
  simp only[exec]at b ⊢;split at b
  ·exact rK (o:=⟨Q,.alloc t,ty,T,N,guard⟩) c.dst b v
  exact b.elim
 | box t y =>
  have d:=c.get y (by simp[Op.operands]);simp only[exec,d]at b ⊢;split at b
  ·obtain⟨cs,b,h3⟩:=iu b;exact h3 _ (rK (o:=⟨Q,.box t y,ty,T,N,guard⟩) c.dst b v)
  exact b.elim
 | build t ps =>
  have d:∀ H∈ps.toList,e'.get H.2=e.get H.2:=λH Y=>c.get H.2 (by simp only[Op.operands];exact List.mem_toArray.2 (List.mem_map.2 ⟨H,Y,rfl⟩));simp only[exec]at b ⊢;unfold Jk at b ⊢;split at b
  ·split at b
   ·exact b.elim
   obtain⟨qs,b,f⟩:=kE _ _ b;refine qM _ _ d (f _ ?_);split at b
   ·rw[bF]at b ⊢;exact i _ b
   exact b.elim
  exact b.elim
 | buildSlice t k ps =>
  have d:∀ H∈ps.toList,e'.get H.2=e.get H.2:=λH Y=>c.get H.2 (by simp only[Op.operands];exact List.mem_toArray.2 (List.mem_map.2 ⟨H,Y,rfl⟩));simp only[exec]at b ⊢;split at b
  ·split at b
   ·split at b
    ·obtain⟨qs,b,h3⟩:=kE _ _ b;refine qM _ _ d (h3 _ ?_);split at b
     ·exact x8 (o:=⟨Q,.buildSlice t k ps,ty,T,N,guard⟩) c.dst b v
     exact b.elim
    exact b.elim
   exact b.elim
  exact b.elim
 | load t y =>
  have d:=c.get y (by simp[Op.operands]);have x:∀ u,(e.get y).refs u->e'.b u=e.b u:=by
   rcases c.box with C|x
   ·simp only[cls]at C;split at C<;>cases C
   exact x y (by simp[Op.operands])
  simp only[exec,d]at b ⊢;split at b
  ·split at b
   ·split at b
    ·rename_i u off m;obtain⟨A,f,X⟩:=x9 (e':=e') (λu' hu=>x u' (by rw[m];exact hu)) b;exact X _ (i _ f)
    exact b.elim
   obtain⟨A,f,X⟩:=x9 (e':=e') x b;exact X _ (i _ f)
  exact b.elim
 | store t y z =>
  have p:=c.get y (by simp[Op.operands]);have q:=c.get z (by simp[Op.operands]);have x:∀ u,(e.get y).refs u->e'.b u=e.b u:=by
   rcases c.box with C|x
   ·simp[cls,DC]at C
   exact x y (by simp[Op.operands])
  simp only[exec,p,q]at b ⊢;split at b
  ·refine Ci x b λs L B hK hr=>v _ _ _ hK ?_;refine⟨λu cs g=>.inr ⟨by simp[cls,DC],y,by simp[Op.operands],hr.2 u cs g⟩,λu hu=>?_,λC _=>?_⟩
   ·rw[hr.1]at hu;exact hu.elim
   exact absurd (by simp[cls,DC]) C
  exact b.elim
 | nilCheck y =>
  have d:=c.get y (by simp[Op.operands]);simp only[exec,d]at b ⊢;split at b
  ·rename_i m;exact v _ _ _ b (tn.same (y:=y) (by simp[Op.operands]) m)
  ·exact i _ b
  ·exact i _ b
  ·exact i _ b
  exact j _ rfl b
 | binOp R t y z u =>
  have p:=c.get y (by simp[Op.operands]);have q:=c.get z (by simp[Op.operands]);simp only[exec,p,q]at b ⊢;split at b
  ·split at b
   ·obtain⟨A,b,f⟩:=tg b;exact f _ (i _ b)
   exact j _ rfl b
  ·split at b
   ·split at b
    ·exact i _ b
    ·exact i _ b
    exact j _ rfl b
   exact j _ rfl b
  obtain⟨A,b,f⟩:=x6 b;exact DJ c.get (f h (λs L B=>J s L B) (i _ b))
 | unOp R t y =>
  have d:=c.get y (by simp[Op.operands]);simp only[exec,d]at b ⊢;split at b
  ·exact i _ b
  ·rw[fX]at b ⊢;exact i _ b
  exact j _ rfl b
 | convert s t y =>
  have d:=c.get y (by simp[Op.operands]);simp only[exec,d]at b ⊢;split at b
  ·split at b
   ·rw[fX]at b ⊢;exact i _ b
   exact j _ rfl b
  exact j _ rfl b
 | makeInterface t y =>
  have d:=c.get y (by simp[Op.operands]);simp only[exec,d]at b ⊢;split at b
  ·split at b
   ·exact b.elim
   exact i _ b
  exact b.elim
 | makeFunc ab fs cs =>
  simp only[exec]at b ⊢;obtain⟨vs,b,f⟩:=kF _ _ b;obtain⟨us,b,X⟩:=kF _ _ b;refine pE _ _ (λI M=>c.get I (by simp only[Op.operands];exact Array.mem_append.2 (.inl (Array.mem_toList_iff.1 M)))) (f _ ?_);exact pE _ _ (λI M=>c.get I (by simp only[Op.operands];exact Array.mem_append.2 (.inr (Array.mem_toList_iff.1 M)))) (X _ (i _ b))
 | slice t y lo hi mx =>
  have d:=c.get y (by simp[Op.operands]);have Ls:fB e' lo=fB e lo:=by
   cases lo with
   | none=>rfl
   | some I=>simp only[fB];rw[c.get I (by simp[Op.operands])]
  have Wf:fB e' hi=fB e hi:=by
   cases hi with
   | none=>rfl
   | some I=>simp only[fB];rw[c.get I (by simp[Op.operands])]
  simp only[exec,d,Ls,Wf]at b ⊢;split at b
  ·split at b
   ·obtain⟨A,b,f⟩:=rJ b;exact f _ (i _ b)
   exact j _ rfl b
  exact j _ rfl b
 | fieldAddr t y ad =>
  have d:=c.get y (by simp[Op.operands]);simp only[exec,d]at b ⊢;split at b
  ·split at b
   ·split at b
    ·rename_i u off m;exact v _ _ _ b ⟨(λ_ _ g=>by cases g),(λu' g=>.inl ⟨y,by simp[Op.operands],by rw[m];exact g⟩),λ_ _=>Heap.le_refl h⟩
    ·exact i _ b
    exact b.elim
   exact b.elim
  exact b.elim
 | field t y ad =>
  have d:=c.get y (by simp[Op.operands]);simp only[exec,d]at b ⊢;split at b
  ·split at b
   ·split at b
    ·rename_i cs tu m Jq;split at b
     ·cases Cd:tu.agg with
      | true=>simp only[Cd,bF]at b ⊢;exact i _ b
      | false =>
       simp only[Cd]at b;simp only;split at b
       ·exact i _ b
       exact b.elim
     exact b.elim
    exact b.elim
   exact b.elim
  exact b.elim
 | indexAddr t y z =>
  have p:=c.get y (by simp[Op.operands]);have q:=c.get z (by simp[Op.operands]);simp only[exec,p,q]at b ⊢;split at b
  ·split at b
   ·split at b
    ·obtain⟨f,b⟩:=cC.1 b;rw[nu]at b ⊢;unfold xN at b ⊢;obtain⟨V,off,Y,b⟩:=b;exact cC.2 ⟨f,V,off,Y,i _ b⟩
    ·rename_i m;obtain⟨f,b⟩:=cC.1 b;exact cC.2 ⟨f,v _ _ _ b ⟨(λ_ _ g=>by cases g),(λu' g=>.inl ⟨y,by simp[Op.operands],by rw[m];exact g⟩),λ_ _=>Heap.le_refl h⟩⟩
    exact b.elim
   ·split at b
    ·obtain⟨f,b⟩:=cC.1 b;exact cC.2 ⟨f,i _ b⟩
    ·rename_i m;obtain⟨f,b⟩:=cC.1 b;exact cC.2 ⟨f,v _ _ _ b ⟨(λ_ _ g=>by cases g),(λu' g=>.inl ⟨y,by simp[Op.operands],by rw[m];exact g⟩),λ_ _=>Heap.le_refl h⟩⟩
    exact b.elim
   exact b.elim
  exact b.elim
 | index t y z =>
  have p:=c.get y (by simp[Op.operands]);have q:=c.get z (by simp[Op.operands]);simp only[exec,p,q]at b ⊢;split at b
  ·split at b
   ·obtain⟨f,b⟩:=cC.1 b;exact cC.2 ⟨f,i _ b⟩
   exact j _ rfl b
  exact j _ rfl b
 | extract y ad =>
  have d:=c.get y (by simp[Op.operands]);simp only[exec,d]at b ⊢;split at b
  ·split at b
   ·exact i _ b
   exact b.elim
  exact b.elim
 | makeSlice t y z =>
  have p:=c.get y (by simp[Op.operands]);have q:=c.get z (by simp[Op.operands]);simp only[exec,p,q]at b ⊢;split at b
  ·split at b
   ·obtain⟨f,b⟩:=cC.1 b;refine cC.2 ⟨f,?_⟩;rw[lE]at b ⊢;unfold vU at b ⊢;exact λV x=>v _ _ _ (b V x) ⟨(λ_ _ g=>by cases g),(λ_ g=>g.elim),λ_ _=>Heap.wv _ x⟩
   exact b.elim
  exact b.elim
 | panic y =>
  have d:=c.get y (by simp[Op.operands]);simp only[exec,d]at b ⊢;exact b
 | call aa =>
  obtain⟨callee,args,ts⟩:=aa;cases callee with
  | value ab =>
   have d:=c.get ab (by simp[Op.operands,Call.operands]);simp only[exec,d]at b ⊢;split at b
   ·obtain⟨vs,b,f⟩:=kF _ _ b;refine pE _ _ (λI M=>c.get I (by simp[Op.operands,Call.operands,Array.mem_toList_iff.1 M])) (f _ ?_);refine ya b λs L B hK hs Wg hle=>v _ _ _ hK ?_;obtain⟨A,rfl⟩:=hs;subst Wg;refine⟨(λ_ _ g=>by cases g),(λ_ g=>g.elim),λ_ hA=>hle ?_⟩;cases M:Jj F ab with
    | true=>exact absurd (by simp only[cls,M]) hA
    | false=>rfl
   exact b.elim
  | invoke r ae=>exact j _ rfl b
  | builtin V =>
   cases V with
   | len =>
    simp only[exec]at b ⊢;split at b
    ·rename_i y G;have d:=c.get y (by simp[Op.operands,Call.operands,Array.mem_toList_iff.1 (show y∈args.toList by rw[G];simp)]);simp only[d];split at b
     ·split at b
      ·exact i _ b
      exact b.elim
     ·split at b
      ·exact i _ b
      exact b.elim
     exact j _ rfl b
    exact b.elim
   | max =>
    simp only[exec]at b ⊢;split at b
    ·rename_i y z G;have p:=c.get y (by simp[Op.operands,Call.operands,Array.mem_toList_iff.1 (show y∈args.toList by rw[G];simp)]);have q:=c.get z (by simp[Op.operands,Call.operands,Array.mem_toList_iff.1 (show z∈args.toList by rw[G];simp)]);simp only[p,q];split at b
     ·split at b
      ·exact i _ b
      exact j _ rfl b
     exact j _ rfl b
    exact j _ rfl b
   | min =>
    simp only[exec]at b ⊢;split at b
    ·rename_i y z G;have p:=c.get y (by simp[Op.operands,Call.operands,Array.mem_toList_iff.1 (show y∈args.toList by rw[G];simp)]);have q:=c.get z (by simp[Op.operands,Call.operands,Array.mem_toList_iff.1 (show z∈args.toList by rw[G];simp)]);simp only[p,q];split at b
     ·split at b
      ·exact i _ b
      exact j _ rfl b
     exact j _ rfl b
    exact j _ rfl b
   | cap =>
    simp only[exec]at b ⊢;split at b
    ·rename_i y G;have d:=c.get y (by simp[Op.operands,Call.operands,Array.mem_toList_iff.1 (show y∈args.toList by rw[G];simp)]);simp only[d];split at b
     ·split at b
      ·exact i _ b
      exact b.elim
     exact j _ rfl b
    exact b.elim
   | append =>
    simp only[exec]at b ⊢;split at b
    ·rename_i y z t u G Uw;have p:=c.get y (by simp[Op.operands,Call.operands,Array.mem_toList_iff.1 (show y∈args.toList by rw[G];simp)]);have Ux:z∈(⟨Q,.call ⟨.builtin .append,args,ts⟩,ty,T,N,guard⟩:Oper).op.operands:=by
      simp[Op.operands,Call.operands,Array.mem_toList_iff.1 (show z∈args.toList by rw[G];simp)]
     have q:=c.get z Ux;have x:∀ u,(e.get z).refs u->e'.b u=e.b u:=by
      rcases c.box with C|x
      ·simp[cls]at C
      exact x z Ux
     simp only[p,q];split at b
     ·split at b
      ·split at b
       ·obtain⟨ae,vs,b,f⟩:=zS (e':=e') x b;exact f _ (b.mono λA B hv=>v _ _ _ hv ⟨(λ_ _ g=>by cases g),(λ_ g=>g.elim),λ_ C=>absurd (by simp[cls]) C⟩)
       exact b.elim
      exact b.elim
     exact j _ rfl b
    exact b.elim
   | _=>exact j _ rfl b
 | _=>exact j _ rfl b
def gd (f:Array Oper) (o:Oper) (e:Env):Option Bool :=
 match o.guard with
 | none=>some true
 | some (j,w)=>match f[j]? with
  | none=>some false
  | some c=>match c.dst with
   | none=>some false
   | some d=>match e.s d with
    | .v (.bool b)=>some (b==w)
    | .v (.tuple _)=>some false
    | _=>none
def one (P:Program) (S:lD) (F:Fs) (d:Array Oper) (o:Oper) (e:Env) (h:Heap) (K:Env->Heap->Prop) (E:List PanicEntry->Heap->Prop):Prop :=
 match gd d o e with
 | some true=>exec P S F true o e h (λs b c=>K (e.put o.dst s b) c) E
 | some false=>K (e.put o.dst (.v undef) none) h
 | none=>False
theorem DL {d:Nat} {s:Slot} (b:e.s d=s):e.put (some d) s none=e:=by
 unfold Env.put;cases e with
 | mk g f =>
  simp only at b ⊢;congr 1
  funext t
  split
  ·rename_i c;rw[c,b]
  rfl
theorem gW {b:Array Oper} {K:Env->Heap->Prop}:o9 P S F true b.toList o e h K E↔one P S F b o e h K E:=by
 unfold o9 one guardOf gd;cases p:o.guard with
 | none=>exact Iff.rfl
 | some g =>
  obtain⟨j,w⟩:=g;simp only[qK,Array.getElem?_toList];cases q:b[j]? with
  | none=>exact Iff.rfl
  | some i =>
   simp only;cases m:i.dst with
   | none=>exact Iff.rfl
   | some d =>
    simp only;cases f:e.s d with
    | v x =>
     cases x with
     | bool c =>
      simp only;cases c<;>cases w<;>simp only[DL f]<;>exact Iff.rfl
     | _=>exact Iff.rfl
    | _=>exact Iff.rfl
def sq (P:Program) (S:lD) (F:Fs) (b:Array Oper) (K:Env->Heap->Prop) (E:List PanicEntry->Heap->Prop):Nat->Array Bool->Env->Heap->Prop
 | 0,listed,e,h=>Region.ready .any b listed=[]/\K e h
 | k+1,listed,e,h=>(Region.ready .any b listed=[]->K e h) /\
  ∀ i∈Region.ready .any b listed,∃ o,b[i]? = some o/\one P S F b o e h (λc d=>sq P S F b K E k (listed.setIfInBounds i true) c d) E
theorem oF {n:Nat} (s:dJ P S) {j:Array Oper} (t:∀ o∈j.toList,∀ p,o.dst=some p->p < n) {K:Env->Heap->Prop} {Q:Exit->Act->World->Prop} {h0:Heap} {w0:World}
  (g:∀ e' d m b w',K e' d->Rel D n h0 w0 m e' d b w'->Q .normal b w')
  (q:∀ c d b w',E c d->cQ h0 w0 d w'->b.defers=D->Q (.panic c) b w') :
  ∀(k:Nat) (f:Array Bool) (e:Env) (h:Heap) (β:Nat->Nat) (a:Act) (w:World),sq P S F j K E k f e h->Rel D n h0 w0 β e h a w->wpAny P .any j Q k f a w
 | 0,f,e,h,β,a,w,hx,r=>⟨hx.1,g _ _ β _ _ hx.2 r⟩
 | k+1,f,e,h,β,a,w,hx,r=>⟨λh0=>g _ _ β _ _ (hx.1 h0) r,λz y=>by
   obtain⟨o,i,u⟩:=hx.2 z y;exact rG s i r (t o (by rw[<-Array.getElem?_toList]at i;exact List.mem_of_getElem? i)) (gW.2 u) (λe' d m b w' v x=>oF s t g q k _ e' d m b w' v x) q⟩
def WF (e:Env):Prop:=∀ t u,(e.s t).refs u->(e.b u).isSome
theorem WF.get (c:WF e) {y:Operand} {u:Nat} (b:(e.get y).refs u):(e.b u).isSome:=by
 cases y with
 | tmp t=>exact c t u b
 | _=>exact b.elim
theorem Rel.wf {n:Nat} {h0:Heap} {w0:World} {β:Nat->Nat} {a:Act} {w:World} (r:Rel D n h0 w0 β e h a w):WF e:=by
 intro t u b;have:=r.slot t;revert b this
 cases e.s t<;>intro b this<;>first|exact b.elim|(cases b;exact this.2)
theorem zT (j:WF e) {d:Option Nat} {s:Slot} {c:Bx} (p:∀ u,s.refs u->(e.b u).isSome\/∃ cs,c=some (u,cs)):WF (e.put d s c):=by
 have i:∀ u,((e.b u).isSome\/∃ cs,c=some (u,cs))->((e.put d s c).b u).isSome:=by
  intro u b;unfold Env.put;cases c with
  | none =>
   rcases b with b|⟨cs,g⟩
   ·exact b
   cases g
  | some q =>
   obtain⟨x,v⟩:=q;simp only;split
   ·rfl
   rename_i m;rcases b with b|⟨cs,g⟩
   ·exact b
   simp only[Option.some.injEq,Prod.mk.injEq]at g;exact absurd g.1.symm m
 intro t u f;cases d with
 | none=>exact i u (.inl (j t u f))
 | some d =>
  simp only[Env.put]at f;split at f
  ·exact i u (p u f)
  exact i u (.inl (j t u f))
theorem Bg {d:Option Nat} {s:Slot} {c:Bx} {y:Operand} (g:∀ b,d=some b->y≠.tmp b):(e.put d s c).get y=e.get y:=by
 cases y with
 | tmp t =>
  cases d with
  | none=>rfl
  | some d =>
   have:t≠d:=λf=>g d rfl (by rw[f]);simp[Env.get,Env.put,this]
 | _=>rfl
theorem yd {d:Option Nat} {s:Slot} {c:Bx} {u:Nat} (f:∀ b cs,c=some (b,cs)->u≠b):(e.put d s c).b u=e.b u:=by
 cases c with
 | none=>rfl
 | some g=>obtain⟨b,cs⟩:=g;simp[Env.put,f b cs rfl]
theorem put_comm {d i:Option Nat} {s p:Slot} {f g:Bx} (v:∀ t,d=some t->i≠some t) (q:∀ u cs,f=some (u,cs)->∀ c j,g=some (c,j)->u≠c) :
  (e.put d s f).put i p g=(e.put i p g).put d s f:=by
 unfold Env.put;congr 1
 ·cases d with
  | none=>rfl
  | some t =>
   cases i with
   | none=>rfl
   | some y =>
    have m:t≠y:=λx=>v t rfl (by rw[x]);funext k
    simp only;by_cases b:k=t
    ·subst b;simp[m]
    simp[b]
 cases f with
 | none=>rfl
 | some z =>
  cases g with
  | none=>rfl
  | some A =>
   obtain⟨u,cs⟩:=z;obtain⟨c,j⟩:=A;have m:u≠c:=q u cs rfl c j rfl;funext k
   simp only;by_cases b:k=u
   ·subst b;simp[m]
   simp[b]
theorem zU {b:Array Oper} {d:Option Nat} {s:Slot} {c:Bx} (m:∀ f,d=some f->f ∉ o.looksAt b):gd b o (e.put d s c)=gd b o e:=by
 unfold gd;cases i:o.guard with
 | none=>rfl
 | some u =>
  obtain⟨q,w⟩:=u;simp only;cases p:b[q]? with
  | none=>rfl
  | some v =>
   simp only;cases g:v.dst with
   | none=>rfl
   | some t =>
    simp only;have:(e.put d s c).s t=e.s t:=by
     cases d with
     | none=>rfl
     | some d =>
      have:t≠d:=λj=>m d rfl (by simp[Oper.looksAt,i,p,g,j]);simp[Env.put,this]
    rw[this]
theorem ye {j:Array Oper} {d:Option Nat} (g:∀ b,d=some b->b ∉ o.looksAt j) {y:Operand} (i:y∈o.op.operands):∀ b,d=some b->y≠.tmp b:=by
 intro b c f;refine g b c ?_;unfold Oper.looksAt;refine List.mem_append.2 (.inl (List.mem_filterMap.2 ⟨y,Array.mem_toList_iff.2 i,by rw[f]⟩))
def Bh:dB->dB->Bool
 | .P,_=>true
 | .L,.W=>false
 | .L,_=>true
 | .R,.W=>false
 | .R,.A=>false
 | .R,_=>true
 | _,_=>false
structure Gy (P:Program) (S:lD) (F:Fs) (ops:Array Oper) (o:Oper) (e:Env) (h:Heap) (s:Slot) (bx:Bx):Prop where
 run:(gd ops o e=some true/\∀(h':Heap) (K:Slot->Bx->Heap->Prop) (E:List PanicEntry->Heap->Prop),(cls F o=.R->h.le h')->K s bx h'->exec P S F true o e h' K E) \/
  (gd ops o e=some false/\s=.v undef/\bx=none)
 fb:∀ u cs,bx=some (u,cs)->o.dst=some u/\e.b u=none
 fs:∀ u,s.refs u->(∃ y∈o.op.operands,(e.get y).refs u)\/∃ cs,bx=some (u,cs)
theorem Gy.one {f:Array Oper} {s:Slot} {c:Bx} (st:Gy P S F f o e h s c) {K:Env->Heap->Prop} (d:K (e.put o.dst s c) h):one P S F f o e h K E:=by
 unfold Vc.one;rcases st.run with ⟨b,g⟩|⟨b,rfl,rfl⟩
 ·simp only[b];exact g h _ _ (λ_=>Heap.le_refl h) d
 simp only[b];exact d
theorem front {x:Array Oper} {K:Env->Heap->Prop} {i:Nat} {f:Oper} (hi:x[i]? = some f) (Wh:cls F f=.P\/cls F f=.L\/cls F f=.R) {s:Slot} {H:Bx} :
  ∀(k:Nat) (G:Array Bool) (e:Env) (h:Heap),WF e ->
   (∀ p g,x[p]? = some g->p≠i->G.getD p true=false->(∀ d∈g.after,Region.binds .any d=true->d.on≠i)->f.apart x g=true/\Bh (cls F f) (cls F g)=true) ->
   i∈Region.ready .any x G->Gy P S F x f e h s H ->
   sq P S F x K E k (G.setIfInBounds i true) (e.put f.dst s H) h->sq P S F x K E (k+1) G e h:=by
 intro k;induction k with
 | zero =>
  intro G e h V DM R st X;refine⟨λh0=>(by rw[h0]at R;cases R),λp hj=>?_⟩;by_cases L:p=i
  ·subst L;exact⟨f,hi,st.one X⟩
  have:=ready_mono hj L;rw[X.1]at this;cases this
 | succ k ih =>
  intro G e h V DM R st X;refine⟨λh0=>(by rw[h0]at R;cases R),λp hj=>?_⟩;by_cases L:p=i
  ·subst L;exact⟨f,hi,st.one X⟩
  obtain⟨g,Pz,b⟩:=X.2 p (ready_mono hj L);refine⟨g,Pz,?_⟩;obtain⟨Ma,oj',Mb,qI⟩:=mem_ready.1 hj;rw[Pz]at Mb;cases Mb
  have PA:∀ d∈g.after,Region.binds .any d=true->d.on≠i:=λd hd B I=>by
   have b:=qI d hd B;have h0:=(mem_ready.1 R).1;rw[I]at b;rcases Nat.lt_or_ge i G.size with v|v
   ·simp[v]at h0 b;rw[h0]at b;cases b
   simp[Array.getElem?_eq_none v]at b
  obtain⟨Wi,Q⟩:=DM p g Pz L Ma PA;obtain⟨a1,a2,a3⟩:=Oper.apart_spec Wi;have tq:∀ y∈g.op.operands,(e.put f.dst s H).get y=e.get y:=λy m=>Bg (ye a1 m);have Mc:∀(d:Option Nat) (s':Slot) (Uy:Bx),d=g.dst->∀ y∈f.op.operands,(e.put d s' Uy).get y=e.get y:=λd s' Uy hd y m=>Bg (by rw[hd];exact ye a3 m);have JB:∀ W ok,x[W]? = some ok->W≠i->(G.setIfInBounds p true).getD W true=false->(∀ d∈ok.after,Region.binds .any d=true->d.on≠i)->f.apart x ok=true/\Bh (cls F f) (cls F ok)=true:=λW ok hk Wj Uz PB=>by
   refine DM W ok hk Wj ?_ PB;by_cases Lr:p=W
   ·subst Lr;exact Ma
   rw[getD_set_ne true Lr]at Uz;exact Uz
  have step:∀ M z v,sq P S F x K E k ((G.setIfInBounds i true).setIfInBounds p true) ((e.put f.dst s H).put g.dst M z) v->tn F g (e.put f.dst s H) h M z v ->
    sq P S F x K E (k+1) (G.setIfInBounds p true) (e.put g.dst M z) v:=by
   intro M z v hA hR;have UA:∀ u q,z=some (u,q)->(g.dst=some u/\e.b u=none)\/((e.b u).isSome/\cls F g=.W):=by
    intro u q c;rcases hR.fb u q c with ⟨b,A⟩|⟨b,y,m,A⟩
    ·refine .inl ⟨b,?_⟩;cases H with
     | none=>exact A
     | some uc =>
      obtain⟨N,J⟩:=uc;by_cases j:u=N
      ·subst j;exact(st.fb u J rfl).2
      rw[yd (λWk PC Md=>by simp only[Option.some.injEq,Prod.mk.injEq]at Md;rw[<-Md.1];exact j)]at A;exact A
    rw[tq y m]at A;exact .inr ⟨V.get A,b⟩
   have Me:∀ u q,z=some (u,q)->∀ t,f.dst=some t->e.b t=none->t≠u:=by
    intro u q c t T B I;subst I;rcases UA _ _ c with ⟨b,_⟩|⟨b,_⟩
    ·exact a2 t T b
    rw[B]at b;cases b
   have Jt:WF (e.put g.dst M z):=zT V λu j=>by
    rcases hR.fs u j with ⟨y,m,JC⟩|c
    ·rw[tq y m]at JC;exact .inl (V.get JC)
    exact .inr c
   have Cd:Ip F f e (e.put g.dst M z):={
    get:=Mc _ _ _ rfl
    box:=by
     rcases Wh with C|C
     ·exact .inl C
     right
     intro y m u j;refine yd λN J c I=>?_;subst I;rcases UA _ _ c with ⟨_,A⟩|⟨_,A⟩
     ·have:=V.get j;rw[A]at this;cases this
     rw[A]at Q;rcases C with C|C<;>rw[C]at Q<;>cases Q
    dst:=λt T B=>by rw[yd (λN J c=>Me N J c t T B)];exact B}
   refine ih _ _ _ Jt JB (ready_mono R (Ne.symm L)) ?_ ?_
   ·refine⟨?_,λu q c=>⟨(st.fb u q c).1,Cd.dst u (st.fb u q c).1 (st.fb u q c).2⟩,λu j=>?_⟩
    ·rcases st.run with ⟨Y,g2⟩|⟨Y,g2,g3⟩
     ·refine .inl ⟨by rw[zU a3];exact Y,λWl K' E' hle hk=>?_⟩;have:=g2 Wl K' E' (λC=>?_) hk
      ·exact kG Cd this (λs H v hK _=>hK)
      refine Heap.le_trans (hR.le ?_ ?_) (hle C)
      ·intro JD;rw[C,JD]at Q;cases Q
      intro JD;rw[C,JD]at Q;cases Q
     exact .inr ⟨by rw[zU a3];exact Y,g2,g3⟩
    rcases st.fs u j with ⟨y,m,JC⟩|c
    ·exact .inl ⟨y,m,by rw[Cd.get y m];exact JC⟩
    exact .inr c
   rw[Array.setIfInBounds_comm _ _ L,put_comm (λt T=>λc=>a2 t c T) (λu q j N J Wm I=>?_)]
   ·exact hA
   subst I;obtain⟨Y,g2⟩:=st.fb _ _ Wm;exact Me _ _ j _ Y g2 rfl
  unfold one at b ⊢;rw[zU a1]at b;split at b
  ·rename_i hg;simp only[hg];refine kG (o:=g) (e:=e.put f.dst s H) ⟨λy m=>(tq y m).symm,?_,?_⟩ b (λM z v hA hR=>step M z v hA hR)
   ·right
    intro y m u j;rw[tq y m]at j;refine(yd λN J c I=>?_).symm;subst I;have:=V.get j;rw[(st.fb _ _ c).2]at this;cases this
   intro t T B;cases H with
   | none=>exact B
   | some uc =>
    obtain⟨N,J⟩:=uc;by_cases j:t=N
    ·subst j;exact(st.fb t J rfl).2
    rw[yd (λWk PC Md=>by simp only[Option.some.injEq,Prod.mk.injEq]at Md;rw[<-Md.1];exact j)]at B;exact B
  ·rename_i hg;simp only[hg];exact step _ _ _ b tn.plain
  exact b.elim
def yf (F:Fs) (b:Array Oper):List Nat->Array Bool->Bool
 | [],listed=>(Region.ready .any b listed).isEmpty
 | i::r,listed=>(Region.ready .any b listed).contains i&&(match b[i]? with
  | none=>false
  | some c=>((match cls F c with | .P=>true | .L=>true | .R=>true|_=>false)&&(List.range b.size).all λj=>j==i||listed.getD j true||match b[j]? with
    | some d=>(d.after.any λf=>Region.binds .any f&&f.on==i)||(c.apart b d&&Bh (cls F c) (cls F d))
    | none=>true)||Region.ready .any b listed == [i])&&yf F b r (listed.setIfInBounds i true)
theorem DN {g:Array Oper} {K:Env->Heap->Prop} (d:WF e) (b:one P S F g o e h K E):one P S F g o e h (λe' f=>WF e'/\K e' f) E:=by
 unfold one at b ⊢;split at b
 ·refine kG (e:=e) ⟨λ_ _=>rfl,.inr λ_ _ _ _=>rfl,λ_ _ h=>h⟩ b (λt q f i j=>⟨zT d λu c=>?_,i⟩);rcases j.fs u c with ⟨y,s,p⟩|m
  ·exact .inl (d.get p)
  exact .inr m
 ·exact⟨zT d λu c=>c.elim,b⟩
 exact b.elim
theorem pF {g:Array Oper} {K d:Env->Heap->Prop} (b:one P S F g o e h K E) (f:∀ e' c,K e' c->d e' c):one P S F g o e h d E:=by
 unfold one at b ⊢;split at b
 ·exact kG (e:=e) ⟨λ_ _=>rfl,.inr λ_ _ _ _=>rfl,λ_ _ h=>h⟩ b (λs j c i _=>f _ _ i)
 ·exact f _ _ b
 exact b.elim
theorem DO {H:Array Oper} {K:Env->Heap->Prop} (d:cls F o=.P\/cls F o=.L\/cls F o=.R) (u:one P S F H o e h K E):∃ s f,Gy P S F H o e h s f/\K (e.put o.dst s f) h:=by
 unfold one at u;split at u
 ·rename_i x;have p:=kG (e:=e) ⟨λ_ _=>rfl,.inr λ_ _ _ _=>rfl,λ_ _ h=>h⟩ u (λs f c N A=>(⟨N,A⟩:K (e.put o.dst s f) c/\tn F o e h s f c));have C:∀ s f,tn F o e h s f h->∀ v y,f=some (v,y)->o.dst=some v/\e.b v=none:=by
   intro s f A v y q;rcases A.fb v y q with g|⟨g,_⟩
   ·exact g
   rcases d with d|d|d<;>rw[d]at g<;>cases g
  by_cases b:cls F o=.R
  ·have Q:∃ s,(K (e.put o.dst s none) h/\tn F o e h s none h)/\∀(c:Heap) (i:Slot->Bx->Heap->Prop) (m:List PanicEntry->Heap->Prop),h.le c->i s none c->exec P S F true o e c i m:=by
    obtain⟨M,R,ty,pos,V,guard⟩:=o;cases R with
    | load B T =>
     have G:Du F.LL M=false:=by
      simp only[cls]at b;split at b
      ·cases b
      assumption
     simp only[exec]at p ⊢;split at p
     ·rename_i ti X;simp only[G]at p;obtain⟨s,g,j⟩:=x5 p;exact⟨s,g,λc i m hle t=>by simp only[G];exact j c i hle t⟩
     exact p.elim
    | call J =>
     obtain⟨L,args,ts⟩:=J;cases L with
     | value W=>simp only[cls]at b;split at b<;>cases b
     | invoke r Y=>cases b
     | builtin I=>cases I<;>cases b
    | alloc B=>simp only[cls]at b;split at b<;>cases b
    | box B T=>simp only[cls]at b;split at b<;>cases b
    | buildSlice B k ps=>simp only[cls]at b;split at b<;>cases b
    | _=>cases b
   obtain⟨s,⟨g,j⟩,z⟩:=Q;exact⟨s,none,⟨.inl ⟨x,λc i m hle t=>z c i m (hle b) t⟩,C _ _ j,j.fs⟩,g⟩
  obtain⟨s,f,⟨g,j⟩,z⟩:=DK (by
   rcases d with d|d|d
   ·exact .inl d
   ·exact .inr d
   exact absurd d b) p
  exact⟨s,f,⟨.inl ⟨x,λc i m _ t=>z c i m t⟩,C _ _ j,j.fs⟩,g⟩
 ·rename_i x;exact⟨_,_,⟨.inr ⟨x,rfl,rfl⟩,(λ_ _ q=>by cases q),λ_ q=>q.elim⟩,u⟩
 exact u.elim
def Bj (F:Fs) (b:Array Oper) (i:Nat) (c:Array Bool):Bool :=
 (Region.ready .any b c).contains i&&(match b[i]? with
  | none=>false
  | some d=>((match cls F d with | .P=>true | .L=>true | .R=>true|_=>false)&&(List.range b.size).all λj=>j==i||c.getD j true||match b[j]? with
    | some f=>(f.after.any λg=>Region.binds .any g&&g.on==i)||(d.apart b f&&Bh (cls F d) (cls F f))
    | none=>true)||Region.ready .any b c == [i])
theorem tr {c:Array Oper} {K:Env->Heap->Prop} {i:Nat} {f:Oper} {k:Nat} {m:Array Bool} {e:Env} {h:Heap} (x:Bj F c i m=true) (q:c[i]? = some f) (z:WF e)
  (j:o9 P S F true c.toList f e h (λe' t=>WF e'->sq P S F c K E k (m.setIfInBounds i true) e' t) E):sq P S F c K E (k+1) m e h:=by
 simp only[Bj,Bool.and_eq_true,q]at x;obtain⟨A,d⟩:=x;have M:i∈Region.ready .any c m:=by simpa using A
 have j:=DN z (gW.1 j);have j:=pF j (λe' t v=>v.2 v.1);simp only[Bool.or_eq_true]at d;rcases d with d|d
 ·simp only[Bool.and_eq_true]at d;obtain⟨B,C⟩:=d;have u:cls F f=.P\/cls F f=.L\/cls F f=.R:=by
   revert B
   cases cls F f<;>simp
  obtain⟨T,Q,st,G⟩:=DO u j;refine front q u k m e h z (λs R g J N L=>?_) M st G;have I:s < c.size:=(Array.getElem?_eq_some_iff.1 g).1;have:=List.all_eq_true.1 C s (by simpa using I);simp only[g,Bool.or_eq_true,N]at this;rcases this with (b|b)|b
  ·exact absurd (by simpa using b) J
  ·cases b
  rcases b with b|b
  ·exfalso;obtain⟨k,H,p⟩:=Array.any_eq_true.1 b;simp only[Bool.and_eq_true]at p;exact L _ (Array.getElem_mem H) p.1 (by simpa using p.2)
  simpa using b
 have y:Region.ready .any c m=[i]:=by simpa using d
 refine⟨λh0=>(by rw[y]at h0;cases h0),λs g=>?_⟩;rw[y]at g;simp only[List.mem_singleton]at g;subst g;exact⟨f,q,j⟩
theorem tw {c:Array Oper} {K:Env->Heap->Prop}:∀(p:List Nat) (b:Array Bool) (e:Env) (h:Heap),yf F c p b=true->WF e->Gu P S F true c.toList K E p e h->sq P S F c K E p.length b e h
 | [],b,e,h,hp,_,hx=>⟨by simpa [yf]using hp,hx⟩
 | i::r,b,e,h,hp,hw,hx=>by
  simp only[yf,Bool.and_eq_true]at hp;obtain⟨⟨j,m⟩,q⟩:=hp;simp only[Gu,qK,Array.getElem?_toList]at hx;cases d:c[i]? with
  | none=>rw[d]at hx;exact hx.elim
  | some u =>
   simp only[d]at hx;refine tr (by unfold Bj;rw[j];exact m) d hw (gW.2 (pF (gW.1 hx) λf g s t=>tw r (b.setIfInBounds i true) f g q t s))
def PT.mE:PT->List Nat
 | .alt i _ r=>i::r.mE
 | _=>[]
def kH (F:Fs) (b:Array Oper):PT->Bool->Nat->Array Bool->Bool
 | .nil,c,k,listed=>!c&&k==0&&(Region.ready .any b listed).isEmpty
 | .kA,c,_,_=>c
 | .one i r,c,k,listed=>!c&&(match k with
  | 0=>false
  | k+1=>Bj F b i listed&&kH F b r false k (listed.setIfInBounds i true))
 | .alt i t r,c,k,listed=>(match k with
  | 0=>false
  | k+1=>(c||(!(Region.ready .any b listed).isEmpty&&(Region.ready .any b listed).all λj=>(i::r.mE).contains j))&&kH F b t false k (listed.setIfInBounds i true)&&kH F b r true (k+1) listed)
theorem lO {f:Array Oper} {K:Env->Heap->Prop}:∀(p:PT),
  (∀(k:Nat) (d:Array Bool) (e:Env) (h:Heap),kH F f p false k d=true->WF e->pn P S F f.toList K E p e h->sq P S F f K E k d e h) /\
  (∀(k:Nat) (d:Array Bool) (e:Env) (h:Heap),kH F f p true (k+1) d=true->WF e->pn P S F f.toList K E p e h->∀ i∈p.mE,∃ o,f[i]? = some o/\one P S F f o e h (λe' s=>sq P S F f K E k (d.setIfInBounds i true) e' s) E)
 | .nil=>by
  refine⟨λk d e h c g b=>?_,λk d e h c g b i j=>?_⟩
  ·simp only[kH,Bool.and_eq_true]at c;have y:k=0:=by simpa using c.1.2
   subst y;exact⟨by simpa using c.2,b⟩
  simp[PT.mE]at j
 | .kA=>by
  refine⟨λk d e h c g b=>?_,λk d e h c g b i j=>?_⟩
  ·simp[kH]at c
  simp[PT.mE]at j
 | .one i r=>by
  refine⟨λk d e h c g b=>?_,λk d e h c g b m q=>?_⟩
  ·simp only[kH,Bool.and_eq_true]at c;cases k with
   | zero=>simp at c
   | succ k =>
    simp only[Bool.and_eq_true]at c;obtain⟨_,v,x⟩:=c;simp only[pn,qK,Array.getElem?_toList]at b;cases j:f[i]? with
    | none=>rw[j]at b;exact b.elim
    | some B =>
     simp only[j]at b;exact tr v j g (gW.2 (pF (gW.1 b) λe' s t H=>(lO r).1 k _ e' s x H t))
  simp[PT.mE]at q
 | .alt i u r=>by
  have A:∀(z:Bool) (k:Nat) (d:Array Bool) (e:Env) (h:Heap),kH F f (.alt i u r) z (k+1) d=true->WF e->pn P S F f.toList K E (.alt i u r) e h->∀ m∈(PT.alt i u r).mE,∃ o,f[m]? = some o/\one P S F f o e h (λe' s=>sq P S F f K E k (d.setIfInBounds m true) e' s) E:=by
   intro z k d e h c g b m q;simp only[kH,Bool.and_eq_true]at c;obtain⟨⟨_,C⟩,x⟩:=c;simp only[pn,qK,Array.getElem?_toList]at b;simp only[PT.mE,List.mem_cons]at q;rcases q with rfl|q
   ·have b:=b.1;cases j:f[m]? with
    | none=>rw[j]at b;exact b.elim
    | some B =>
     simp only[j]at b;exact⟨B,rfl,pF (DN g (gW.1 b)) λe' s t=>(lO u).1 k _ e' s C t.1 t.2⟩
   exact(lO r).2 k d e h x g b.2 m q
  refine⟨λk d e h c g b=>?_,λk d e h c g b=>A true k d e h c g b⟩;cases k with
  | zero=>simp[kH]at c
  | succ k =>
   have y:=A false k d e h c g b;simp only[kH,Bool.and_eq_true,Bool.false_or]at c;obtain⟨⟨⟨h0,v⟩,_⟩,_⟩:=c;refine⟨λG=>(by rw[G]at h0;simp at h0),λm q=>y m ?_⟩;have:=List.all_eq_true.1 v m q;simpa [PT.mE]using this
def Code.iH (F:Fs):Code->Bool
 | .region id b f=>match f with
  | true=>match zF id F.cq with
   | some p=>p.length==b.size&&yf F b p (Array.replicate b.size false)
   | none=>match zG id F.trees with
    | some t=>kH F b t false b.size (Array.replicate b.size false)
    | none=>true
  | false=>true
 | .seq a d=>Code.iH F a&&Code.iH F d
 | .cond _ a d=>Code.iH F a&&Code.iH F d
 | .block _ c=>Code.iH F c
 | .loop c=>Code.iH F c
 | .scope c=>Code.iH F c
 | _=>true
theorem zV {n:Nat} (q:dJ P S):∀ c:Code,Code.jr n c=true->Code.iH F c=true->Code.ij P S F n c:=by
 intro c;induction c with
 | region id z v =>
  intro d b;cases v with
  | false=>trivial
  | true =>
   intro D K E Q h0 w0 β e h a w f r s p;unfold drawn at f;simp only[Code.iH]at b;split at f
   ·rename_i t i;simp only[i,Bool.and_eq_true]at b;have x:t.length=z.size:=by simpa using b.1
    have:=tw t _ e h b.2 r.wf f;rw[x]at this;exact oF q (zQ d) s p _ _ _ _ _ _ _ this r
   rename_i i;simp only[i]at b;split at f
   ·rename_i A y;simp only[y]at b;exact oF q (zQ d) s p _ _ _ _ _ _ _ ((lO A).1 _ _ e h b r.wf f) r
   exact f.elim
 | seq a u j m =>
  intro d b;simp only[Code.jr,Code.iH,Bool.and_eq_true]at d b;exact⟨j d.1 b.1,m d.2 b.2⟩
 | cond c a u j m =>
  intro d b;simp only[Code.jr,Code.iH,Bool.and_eq_true]at d b;exact⟨j d.1 b.1,m d.2 b.2⟩
 | block id c g=>exact λd b=>g d b
 | loop c g=>exact λd b=>g d b
 | scope c g=>exact λd b=>g d b
 | _=>intro _ _;trivial
def iW (F:Fs) (b:Func) (k:Nat):Bool:=match b.body with
 | some c=>Nat.ble k b.ntmps&&Code.jr b.ntmps c&&Code.iH F c
 | none=>false
def Goal (P:Program) (S:lD) (F:Fs) (b:Func) (args:List Value) (h:Heap) (R:Out->Heap->Prop):Prop:=match b.body with
 | some c=>den P S F c (Fin S b.results.toList R) (kD args) h
 | none=>False
theorem calls {S:lD} (i:dJ P S) {f:FuncId} {c:Func} (m:P.funcs[f]? = some c) (F:Fs) {args:List Value} (b:iW F c args.length=true) {h:Heap} {R:Out->Heap->Prop} (g:Goal P S F c args h R):eY P f args h R:=by
 unfold iW at b;unfold Goal at g;cases d:c.body with
 | none=>rw[d]at b;cases b
 | some j =>
  simp only[d,Bool.and_eq_true]at b g;exact wu i F m d (Nat.le_of_ble_eq_true b.1.1) b.1.2 (zV i j b.1.2 b.2) g
end Go.Vc
