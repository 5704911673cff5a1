/- Part 1 of the lemmas on which the law rests: what functions of the program and of the reference do; no conditions but those that each lemma states. -/
import Derived.Calls
import Derived.KernelRfl
import Derived.Laws.Sem
import Derived.Deep.Quiet
import Derived.Scope
import Derived.Orders
set_option linter.unusedSimpArgs false
set_option linter.unusedVariables false
namespace Go
theorem O {p:Prop} (h:p:=by omega):p:=h
theorem Z {p:Prop} (h:p:=by simp):p:=h
end Go
namespace Go.Vc
set_option linter.constructorNameAsVariable false
abbrev Heap:=Nat->Option Obj
def Heap.set (h:Heap) (b:Nat) (o:Obj):Heap:=λc=>if c=b then some o else h c
def Heap.le (h h':Heap):Prop:=∀ b o,h b=some o->h' b=some o
inductive Slot where
 | v (x:Value)
 | l (t off:Nat)
 | r (t len:Nat)
 | x
structure Env where
 s:Nat->Slot
 b:Nat->Option (List Value)
def Env.get (e:Env):Operand->Slot
 | .tmp t=>e.s t
 | .const v=>.v v
 | .global g=>.v (.pointer (some ⟨g,0,none⟩))
 | .func f=>.v (.func (.func f) #[] #[])
abbrev Bx:=Option (Nat × List Value)
def Env.put (e:Env) (d:Option Nat) (x:Slot) (a:Bx):Env :=
 ⟨match d with|none=>e.s|some d=>λt=>if t=d then x else e.s t,
  match a with|none=>e.b|some (d,cs)=>λt=>if t=d then some cs else e.b t⟩
inductive TD where
 | Rb|num (k:IntKind)|NR|str (fs:List (Nat × TypeId))|arr (n:Nat) (e:TypeId)|sl (e:TypeId)|ptr (e:TypeId)|NS|dm
structure TI where
 size:Nat
 bytes:Nat
 zero:List Value
 agg:Bool
 d:TD
inductive Tree (α:Type) where
 | leaf
 | node (l:Tree α) (k:Nat) (v:α) (r:Tree α)
def Tree.find {a:Type} (i:Nat):Tree a->Option a
 | .leaf=>none
 | .node l k v r=>match Nat.beq i k with
  | true=>some v
  | false=>match Nat.blt i k with
   | true=>l.find i
   | false=>r.find i
structure iK where
 ty:Tree TI
 lo:Nat
 nf:Nat
 Qm:Nat:=0
def iK.lt (S:iK) (g:Nat):Bool:=match Nat.beq g S.Qm with
 | true=>false
 | false=>Nat.blt g S.nf
theorem iK.v7 {S:iK} {g:Nat} (h:S.lt g=true):g < S.nf/\g≠S.Qm:=by
 unfold iK.lt at h;split at h
 ·cases h
 rename_i a;refine⟨by simp[Nat.blt]at h;omega,λe=>?_⟩;rw[e]at a;simp at a
inductive PT where
 | nil
 | eJ
 | one (i:Nat) (r:PT)
 | alt (i:Nat) (t r:PT)
structure Fs where
 L:List Nat:=[]
 LL:List Nat:=[]
 bX:List (Nat × List Nat):=[]
 trees:List (Nat × PT):=[]
 M:List Nat:=[]
inductive Out where
 | ret (v:Value)
 | jj (c:List PanicEntry)
inductive Ex where
 | normal
 | exit (id:Nat)
 | ret
 | jj (c:List PanicEntry)
structure cK (h:Heap) (w:World) (h':Heap) (w':World):Prop where
 view:∀ b o,h' b=some o->w'.heap[b]? = some o
 aJ:∀ b,b < w.heap.size->h b=none->w'.heap[b]? = w.heap[b]?
 tG:∀ b,h' b≠none->h b≠none\/w.heap.size<=b
 size:w.heap.size<=w'.heap.size
 fz:∀(b:Nat) (cs:Array Value) (t:TypeId) (z:Nat × Nat),w'.heap[b]? = some (Obj.cells cs t z)->z=(0,0)\/w.heap[b]? = some (Obj.cells cs t z)
 out:w'.os=w.os/\w'.tape=w.tape/\w'.output=w.output
def cF (P:Program) (f:FuncId) (args:List Value) (h:Heap) (R:Out->Heap->Prop):Prop :=
 ∀ w:World,(∀ b o,h b=some o->w.heap[b]? = some o) ->
  Calls P f args.toArray w λe d=>∃ a:Heap,cK h w a d /\
   match e with
   | .returned v=>R (.ret v) a
   | .panicked c=>R (.jj c) a
   | .outgrown=>False
def tQ (P:Program) (f:FuncId) (args:List Value) (h:Heap) (K:Value->Heap->Prop) (E:List PanicEntry->Heap->Prop):Prop :=
 cF P f args h λo a=>match o with | .ret v=>K v a | .jj c=>E c a
structure Call (P:Program) (f:FuncId) (args:List Value) (h:Heap) (K:Value->Heap->Prop) (E:List PanicEntry->Heap->Prop):Prop where
 run:tQ P f args h K E
theorem pY:Call=tQ:=by
 funext _ _ _ _ _ _;exact propext ⟨λh=>h.run,λh=>⟨h⟩⟩
def rI (P:Program) (f:FuncId) (args:List Value) (h:Heap) (K:Value->Heap->Prop) (E:List PanicEntry->Heap->Prop):Prop :=
 cF P f args h λo a=>match o with | .ret v=>h.le a/\K v a | .jj c=>E c a
structure fE (P:Program) (f:FuncId) (args:List Value) (h:Heap) (K:Value->Heap->Prop) (E:List PanicEntry->Heap->Prop):Prop where
 run:rI P f args h K E
theorem nU:fE=rI:=by
 funext _ _ _ _ _ _;exact propext ⟨λh=>h.run,λh=>⟨h⟩⟩
def Qn (p K:Prop):Prop:=p/\K
structure Ob (p K:Prop):Prop where
 run:Qn p K
theorem EJ:Ob=Qn:=by
 funext _ _;exact propext ⟨λh=>h.run,λh=>⟨h⟩⟩
def Rc (k:IntKind) (x:Int) (K:Int->Prop):Prop:=K (k.wrap x)
structure Ar (k:IntKind) (x:Int) (K:Int->Prop):Prop where
 run:Rc k x K
theorem K8:Ar=Rc:=by
 funext _ _ _;exact propext ⟨λh=>h.run,λh=>⟨h⟩⟩
def xk (h:Heap) (cs:List Value) (t:TypeId) (K:Nat->Heap->Prop):Prop :=
 ∀ b,h b=none->K b (h.set b (.cells cs.toArray t))
structure EF (h:Heap) (cs:List Value) (t:TypeId) (K:Nat->Heap->Prop):Prop where
 run:xk h cs t K
theorem lQ:EF=xk:=by
 funext _ _ _ _;exact propext ⟨λh=>h.run,λh=>⟨h⟩⟩
def rd (h:Heap) (b off:Nat):Option Value:=match h b with
 | some (.cells c _ _)=>c[off]?
 | _=>none
def dQ (h:Heap) (b:Nat):Nat->Nat->Option (List Value)
 | _,0=>some []
 | off,n+1=>match rd h b off,dQ h b (off+1) n with
  | some v,some r=>some (v::r)
  | _,_=>none
def K9 (h:Heap) (b off:Nat) (K:Value->Prop):Prop:=∃ v,rd h b off=some v/\K v
structure Ld (h:Heap) (b off:Nat) (K:Value->Prop):Prop where
 run:K9 h b off K
theorem tR:Ld=K9:=by
 funext _ _ _ _;exact propext ⟨λh=>h.run,λh=>⟨h⟩⟩
def AM (h:Heap) (b off n:Nat) (K:List Value->Prop):Prop:=∃ a,dQ h b off n=some a/\K a
structure Rd (h:Heap) (b off n:Nat) (K:List Value->Prop):Prop where
 run:AM h b off n K
theorem pZ:Rd=AM:=by
 funext _ _ _ _ _;exact propext ⟨λh=>h.run,λh=>⟨h⟩⟩
def yI (p:Option Addr) (K:Nat->Nat->Prop):Prop:=∃ b a,p=some ⟨b,a,none⟩/\K b a
structure Ptr (p:Option Addr) (K:Nat->Nat->Prop):Prop where
 run:yI p K
theorem nV:Ptr=yI:=by
 funext _ _;exact propext ⟨λh=>h.run,λh=>⟨h⟩⟩
def AN (h:Heap) (p:Option Addr) (k:Nat) (K:List Value->Prop):Prop:=((p=none\/k=0)/\K [])\/∃ b a c,p=some ⟨b,a,none⟩/\dQ h b a k=some c/\K c
structure No (h:Heap) (p:Option Addr) (k:Nat) (K:List Value->Prop):Prop where
 run:AN h p k K
theorem p0:No=AN:=by
 funext _ _ _ _;exact propext ⟨λh=>h.run,λh=>⟨h⟩⟩
def HS:List Value->Nat->Value->List Value
 | [],_,_=>[]
 | _::r,0,v=>v::r
 | a::r,n+1,v=>a::HS r n v
def dU (cs:List Value) (off:Nat):List Value->List Value
 | []=>cs
 | v::r=>dU (HS cs off v) (off+1) r
def NT (h:Heap) (b off:Nat) (vs:List Value) (K:Heap->Prop):Prop :=
 ∃ a t,h b=some (.cells a t (0,0))/\off+vs.length<=a.size/\K (h.set b (.cells (dU a.toList off vs).toArray t (0,0)))
structure St (h:Heap) (b off:Nat) (vs:List Value) (K:Heap->Prop):Prop where
 run:NT h b off vs K
theorem AO:St=NT:=by
 funext _ _ _ _ _;exact propext ⟨λh=>h.run,λh=>⟨h⟩⟩
def take:Nat->List Value->Option (List Value)
 | 0,_=>some []
 | _+1,[]=>none
 | n+1,a::r=>match take n r with
  | some t=>some (a::t)
  | none=>none
def drop:Nat->List Value->List Value
 | 0,l=>l
 | _+1,[]=>[]
 | n+1,_::r=>drop n r
def iY:List Value->(List Value->Prop)->Prop
 | [],K=>K []
 | a::r,K=>iY r λb=>K (a::b)
def lR (b:Nat->Option Nat) (cs:List Value):List (Nat × List Value)->Option (List Value)
 | []=>some cs
 | (i,vs)::r=>match b i with
  | some a=>match (a+vs.length).ble cs.length with
   | true=>lR b (dU cs a vs) r
   | false=>none
  | none=>none
def vM (P:Program) (o:Oper) (e:Env) (h:Heap) (K:Value->Heap->Prop):Prop :=
 (∀ x∈o.op.operands,∃ v,e.get x=.v v)/\∀ b:Operand->Value,(∀ x∈o.op.operands,e.get x=.v (b x))->∀ w:World,(∀ c o,h c=some o->w.heap[c]? = some o) ->
  ∃ v a d,((execOp b o).run P w=.ok (.value v) a\/(execOp b o).run P w=.ok .skip a/\v=undef)/\cK h w d a/\K v d
structure Raw (P:Program) (o:Oper) (e:Env) (h:Heap) (K:Value->Heap->Prop):Prop where
 run:vM P o e h K
theorem ki:Raw=vM:=by
 funext _ _ _ _ _;exact propext ⟨λh=>h.run,λh=>⟨h⟩⟩
def tS (P:Program) (o:Oper) (e:Env) (K:Value->Prop):Prop :=
 (∀ x∈o.op.operands,∃ v,e.get x=.v v)/\∃ v,K v/\∀ a:Operand->Value,(∀ x∈o.op.operands,e.get x=.v (a x))->∀ w:World,(execOp a o).run P w=.ok (.value v) w
structure Ic (P:Program) (o:Oper) (e:Env) (K:Value->Prop):Prop where
 run:tS P o e K
theorem mY:Ic=tS:=by
 funext _ _ _ _;exact propext ⟨λh=>h.run,λh=>⟨h⟩⟩
def vN (P:Program) (o:Oper) (e:Env) (h:Heap) (x:Bool) (K:Slot->Bx->Heap->Prop):Prop:=match x with
 | true=>Ic P o e λv=>K (.v v) none h
 | false=>Raw P o e h λv a=>K (.v v) none a
def jF:Value->Bool
 | .agg _=>false
 | .tuple _=>false
 | _=>true
def dD:List Value->Bool
 | []=>true
 | v::r=>match jF v with
  | true=>dD r
  | false=>false
def xl (bytes f:Nat) (zero:List Value) (g:TypeId) (h:Heap) (a:Option Addr) (n cap m:Nat) (vs:List Value) (K:Value->Heap->Prop):Prop :=
 (n+m<=cap->dD vs=true/\match a with
  | some ⟨b,off,none⟩=>∃ d t,h b=some (.cells d t (0,0))/\off+n*f+vs.length<=d.size /\
    K (.slice a (n+m) cap) (h.set b (.cells (dU d.toList (off+n*f) vs).toArray t (0,0)))
  | some _=>False
  | none=>vs=[]/\K (.slice none (n+m) cap) h) /\
 (cap < n+m->(n+m)*bytes<=2 ^ 44/\n+m<=2 ^ 44/\∃ e,(match a with
  | some ⟨b,off,none⟩=>dQ h b off (n*f)=some e
  | some _=>False
  | none=>n=0/\e=[]) /\
  ∀ b c,h b=none->n+m<=c->K (.slice (some ⟨b,0,none⟩) (n+m) c) (h.set b (.cells (e++vs++(List.replicate (c-(n+m)) zero).flatten).toArray g)))
structure App (bytes size:Nat) (zero:List Value) (elem:TypeId) (h:Heap) (a:Option Addr) (n cap m:Nat) (vs:List Value) (K:Value->Heap->Prop):Prop where
 run:xl bytes size zero elem h a n cap m vs K
theorem lS:App=xl:=by
 funext _ _ _ _ _ _ _ _ _ _ _;exact propext ⟨λh=>h.run,λh=>⟨h⟩⟩
def rJ (a:List Nat) (vs:List Slot) (t:Nat):Slot :=
 match a,vs with
 | i::a,v::vs=>if t=i then v else rJ a vs t
 | _,_=>.x
def Cu (a:List Nat) (cs:List (Option (List Value))) (t:Nat):Option (List Value) :=
 match a,cs with
 | i::a,c::cs=>if t=i then c else Cu a cs t
 | _,_=>none
def Slot.clean (a:List Nat):Slot->Slot
 | .l t b=>if a.contains t then .l t b else .x
 | .r t n=>if a.contains t then .r t n else .x
 | s=>s
def tT (b a:List Nat) (vs:List Slot) (cs:List (Option (List Value))):Env:=⟨λt=>(rJ b vs t).clean a,Cu a cs⟩
def Qo (i:(Ex->Env->Heap->Prop)->Env->Heap->Prop) (K:Ex->Env->Heap->Prop) (e:Env) (h:Heap):Prop :=
 ∃(d c:List Nat) (Inv:Nat->List Slot->List (Option (List Value))->Heap->Prop),(∃ n,Inv n (d.map e.s) (c.map e.b) h)/\∀ n g f h,Inv n g f h ->
  i (λx a b=>match x with | .normal=>∃ m,m < n/\Inv m (d.map a.s) (c.map a.b) b | .exit o=>K (.exit o) a b | .ret=>K .ret a b | .jj j=>K (.jj j) a b) (tT d c g f) h
structure Lp (body:(Ex->Env->Heap->Prop)->Env->Heap->Prop) (K:Ex->Env->Heap->Prop) (e:Env) (h:Heap):Prop where
 run:Qo body K e h
theorem EK:Lp=Qo:=by
 funext _ _ _ _;exact propext ⟨λh=>h.run,λh=>⟨h⟩⟩
def er (b:Bool) (t f:Prop):Prop:=@Bool.rec (λ_=>Prop) f t b
def tU (e:Env) (t off n:Nat):Option (List Value):=match e.b t with
 | some a=>take n (drop off a)
 | none=>none
def load (c:TI) (x:Slot) (e:Env) (h:Heap) (K:Slot->Bx->Heap->Prop):Prop :=
 match x with
 | .l t d=>match tU e t d c.size with
  | some a=>match c.agg with
   | true=>iY a λa=>K (.v (.agg ⟨a⟩)) none h
   | false=>match a with
    | [v]=>K (.v v) none h
    | _=>False
  | none=>False
 | .v (.pointer (some ⟨b,d,none⟩))=>match c.agg with
  | true=>Rd h b d c.size λa=>K (.v (.agg ⟨a⟩)) none h
  | false=>match c.size with
   | 1=>Ld h b d λv=>K (.v v) none h
   | _=>False
 | _=>False
def cellsOf:Value->List Value
 | .agg a=>a.toList
 | v=>[v]
def jr (a:TI) (v:Value) (K:List Value->Prop):Prop :=
 match a.agg with
 | true=>match v with
  | .agg c=>iY c.toList λb=>match b.length.beq a.size with
   | true=>K b
   | false=>False
  | _=>False
 | false=>match jF v with
  | true=>K [v]
  | false=>False
def store (i:TI) (x:Slot) (v:Value) (e:Env) (h:Heap) (K:Slot->Bx->Heap->Prop):Prop :=
 jr i v λc=>match dD c with
 | false=>False
 | true=>match x with
 | .l t a=>match e.b t with
  | some d=>match (a+c.length).ble d.length with
   | true=>iY (dU d a c) λf=>K (.v undef) (some (t,f)) h
   | false=>False
  | none=>False
 | .v (.pointer (some ⟨b,a,none⟩))=>St h b a c λg=>K (.v undef) none g
 | _=>False
def bp (e:Env):List Operand->(List Value->Prop)->Prop
 | [],K=>K []
 | o::r,K=>match e.get o with
  | .v x=>bp e r λa=>K (x::a)
  | _=>False
def parts (e:Env) (a:Nat->Option TI):List (Nat × Operand)->(List (Nat × List Value)->Prop)->Prop
 | [],K=>K []
 | (i,o)::r,K=>match e.get o,a i with
  | .v x,some ti=>jr ti x λc=>parts e a r λb=>K ((i,c)::b)
  | _,_=>False
def sameKind:IntKind->IntKind->Bool
 | .i64,.i64=>true
 | .u8,.u8=>true
 | .i8,.i8=>true
 | .u64,.u64=>true
 | .i32,.i32=>true
 | .u32,.u32=>true
 | _,_=>false
def mx (x y:Int):Int:=if x < y then y else x
def mn (x y:Int):Int:=if y < x then y else x
def sK (c:BinOp) (k:IntKind) (x y:Int):Int :=
 let a:=BitVec.ofInt k.bits x
 let b:=BitVec.ofInt k.bits y
 match c with
 | .and=>k.wrap (a &&& b).toNat
 | .or=>k.wrap (a ||| b).toNat
 | .xor=>k.wrap (a ^^^ b).toNat
 | _=>k.wrap (a &&& ~~~b).toNat
def rK (c:BinOp) (k:IntKind) (a b:Int) (K:Value->Prop) (d:Prop):Prop :=
 match c with
 | .add=>Ar k (a+b) λn=>K (.int k n)
 | .sub=>Ar k (a-b) λn=>K (.int k n)
 | .mul=>Ar k (a*b) λn=>K (.int k n)
 | .quo=>Ob (b≠0) (Ar k (a.tdiv b) λn=>K (.int k n))
 | .rem=>Ob (b≠0) (K (.int k (a.tmod b)))
 | .eql=>K (.bool (decide (a=b)))
 | .neq=>K (.bool (!decide (a=b)))
 | .lss=>K (.bool (decide (a < b)))
 | .leq=>K (.bool (decide (a<=b)))
 | .gtr=>K (.bool (decide (b < a)))
 | .geq=>K (.bool (decide (b<=a)))
 | .and=>K (.int k (sK .and k a b))
 | .or=>K (.int k (sK .or k a b))
 | .xor=>K (.int k (sK .xor k a b))
 | .andNot=>K (.int k (sK .andNot k a b))
 | _=>d
def EL (a:Option Addr) (cap l c:Nat) (K:Option Addr->Prop):Prop :=
 ∀ b,(cap≠l->b=a.map λa=>a.add (l*c))->(cap=l->b=a)->K b
structure Sub (a:Option Addr) (cap l size:Nat) (K:Option Addr->Prop):Prop where
 run:EL a cap l size K
theorem xm:Sub=EL:=by
 funext _ _ _ _ _;exact propext ⟨λh=>h.run,λh=>⟨h⟩⟩
def lT (d:Nat) (a:Option Addr) (cap:Nat) (b:Option Slot) (h:Nat) (K:Value->Prop):Prop :=
 match b with
 | none=>K (.slice a h cap)
 | some (.v (.int _ l))=>Ob (0<=l/\l<=h) (Sub a cap l.toNat d λc=>K (.slice c (h-l.toNat) (cap-l.toNat)))
 | some _=>False
def lU (c:Nat) (a:Option Addr) (n cap:Nat) (b d:Option Slot) (K:Value->Prop):Prop :=
 match d with
 | none=>lT c a cap b n K
 | some (.v (.int _ x))=>Ob (0<=x/\x<=cap) (lT c a cap b x.toNat K)
 | some _=>False
def Ie (d:Nat):List Nat->Bool
 | []=>false
 | i::r=>match Nat.beq d i with
  | true=>true
  | false=>Ie d r
def La (F:Fs):Operand->Bool
 | .func g=>Ie g F.M
 | _=>false
def isLocal (F:Fs):Option Nat->Option Nat
 | some d=>match Ie d F.L with
  | true=>some d
  | false=>none
 | none=>none
def newVar (F:Fs) (t:TypeId) (d:Option Nat) (cs:List Value) (e:Env) (h:Heap) (K:Slot->Bx->Heap->Prop):Prop :=
 match isLocal F d with
 | some d=>match e.b d with
  | none=>iY cs λcs=>K (.l d 0) (some (d,cs)) h
  | some _=>False
 | none=>EF h cs t λb a=>K (.v (.pointer (some ⟨b,0,none⟩))) none a
def newRow (F:Fs) (t:TypeId) (d:Option Nat) (n:Nat) (cs:List Value) (e:Env) (h:Heap) (K:Slot->Bx->Heap->Prop):Prop :=
 match isLocal F d with
 | some d=>match e.b d with
  | none=>iY cs λcs=>K (.r d n) (some (d,cs)) h
  | some _=>False
 | none=>EF h cs t λb a=>K (.v (.slice (some ⟨b,0,none⟩) n n)) none a
def places (S:iK) (d:TD):Option ((Nat->Option Nat) × (Nat->Option TI)) :=
 match d with
 | .str b=>some ((λi=>match b[i]? with|some (o,_)=>some o|none=>none),(λi=>match b[i]? with|some (_,t)=>S.ty.find t|none=>none))
 | .arr n a=>some ((λi=>match S.ty.find a with|some c=>(match Nat.blt i n with|true=>some (i*c.size)|false=>none)|none=>none),(λ_=>S.ty.find a))
 | _=>none
def p7 (n:Nat) (zero:List Value):List Value:=match n with
 | 0=>[]
 | n+1=>zero++p7 n zero
def nth (a:List Oper) (i:Nat):Option Oper:=match a,i with
 | [],_=>none
 | o::_,0=>some o
 | _::r,i+1=>nth r i
def lenOf (x:Slot):Option Nat:=match x with
 | .v (.slice _ n _)=>some n
 | .v (.string s)=>some s.size
 | .r _ n=>some n
 | _=>none
def fG (e:Env):Option Operand->Option Slot
 | none=>none
 | some o=>some (e.get o)
def xo (k:Nat):Option (List Value)->Option Value:=λa=>match a with
 | some l=>match k,l with
  | 0,v::_=>some v
  | _,_=>none
 | none=>none
def Lb (S:iK) (t:TypeId) (c:List (Nat × Operand)) (e:Env) (K:Value->Prop):Prop :=
 match S.ty.find t with
 | some b=>match places S b.d with
  | none=>False
  | some (pl,Lc)=>parts e Lc c λd=>match lR pl b.zero d with
   | some a=>iY a λa=>K (.agg ⟨a⟩)
   | none=>False
 | none=>False
def appArg (e:Env) (b:Nat) (x:Slot) (h:Heap) (K:Nat->List Value->Prop):Prop :=
 match x with
 | .r t n=>match e.b t with
  | some a=>match a.length.beq (n*b)with
   | true=>K n a
   | false=>False
  | none=>False
 | .v (.slice p n _)=>No h p (n*b) λc=>K n c
 | _=>False
def mZ (P:Program) (S:iK) (x:Bool) (f:Value) (args:List Value) (h:Heap) (K:Slot->Bx->Heap->Prop) (E:List PanicEntry->Heap->Prop):Prop :=
 match f with
 | .func (.func g) first captured=>match Nat.ble S.lo g,S.lt g with
  | true,true=>iY (first.toList++args++captured.toList) λargs=>match x with
   | true=>fE P g args h (λv a=>K (.v v) none a) E
   | false=>Call P g args h (λv a=>K (.v v) none a) E
  | _,_=>False
 | _=>False
def EM:Op->Bool
 | .move _ | .assign _ | .pick .. | .alloc _ | .box .. | .build .. | .buildSlice .. | .load .. | .nilCheck _ | .binOp .. | .unOp .. | .convert .. | .makeInterface .. | .makeFunc .. | .slice .. | .fieldAddr .. | .field .. | .indexAddr .. | .index .. | .extract .. | .makeSlice ..=>false
 | .call {callee:=.value _,.. }=>false
 | .call {callee:=.builtin .len,.. }=>false
 | .call {callee:=.builtin .append,.. }=>false
 | .call {callee:=.builtin .max,.. }=>false
 | .call {callee:=.builtin .min,.. }=>false
 | .call {callee:=.builtin .cap,.. }=>false
 | _=>true
def EG (l:List Nat):Option Nat->Bool
 | some d=>Ie d l
 | none=>false
def exec (P:Program) (S:iK) (F:Fs) (x:Bool) (o:Oper) (e:Env) (h:Heap) (K:Slot->Bx->Heap->Prop) (E:List PanicEntry->Heap->Prop):Prop :=
 let c:Prop:=match x && !EM o.op with
  | true=>False
  | false=>Raw P o e h λv z=>K (.v v) none z
 match o.op with
 | .move a | .assign a=>match e.get a with
  | .x=>False
  | s=>K s none h
 | .pick q a d=>match e.get q with
  | .v (.bool t)=>er t (match e.get a with
    | .x=>False
    | s=>K s none h) (match e.get d with
    | .x=>False
    | s=>K s none h)
  | _=>False
 | .alloc t=>match S.ty.find t with
  | some b=>newVar F t o.dst b.zero e h K
  | none=>False
 | .box t a=>match e.get a,S.ty.find t with
  | .v v,some b=>jr b v λm=>newVar F t o.dst m e h K
  | _,_=>False
 | .build t D=>Lb S t D.toList e λv=>K (.v v) none h
 | .buildSlice t n D=>match S.ty.find t with
  | some ⟨_,_,_,_,.sl el⟩=>match S.ty.find el with
   | some b=>match (n*b.size).ble 16777216 with
    | true=>parts e (λ_=>some b) D.toList λj=>match lR (λi=>some (i*b.size)) (p7 n b.zero) j with
     | some m=>newRow F el o.dst n m e h K
     | none=>False
    | false=>False
   | none=>False
  | _=>False
 | .load t a=>match S.ty.find t with
  | some b=>match EG F.LL o.dst with
   | true=>match e.get a with
    | .l u f=>load b (.l u f) e h K
    | _=>False
   | false=>load b (e.get a) e h K
  | none=>False
 | .store t a d=>match S.ty.find t,e.get d with
  | some b,.v v=>store b (e.get a) v e h K
  | _,_=>False
 | .nilCheck a=>match e.get a with
  | .l t f=>K (.l t f) none h
  | .v (.pointer (some a))=>K (.v (.pointer (some a))) none h
  | .v (.iface t v)=>K (.v (.iface t v)) none h
  | .v (.func (.func g) a d)=>K (.v (.func (.func g) a d)) none h
  | _=>c
 | .binOp B t a d _=>match e.get a,e.get d with
  | .v (.int k C),.v (.int k' n)=>match sameKind k k' with
   | true=>rK B k C n (λv=>K (.v v) none h) c
   | false=>c
  | .v (.bool x),.v (.bool y)=>match S.ty.find t with
   | some ⟨_,_,_,_,.Rb⟩=>match B with
    | .eql=>K (.v (.bool (x==y))) none h
    | .neq=>K (.v (.bool (x != y))) none h
    | _=>c
   | _=>c
  | _,_=>vN P o e h x K
 | .unOp B _ a=>match B,e.get a with
  | .not,.v (.bool d)=>K (.v (.bool (!d))) none h
  | .neg,.v (.int k n)=>Ar k (0-n) λn=>K (.v (.int k n)) none h
  | _,_=>c
 | .convert s t a=>match S.ty.find s,S.ty.find t,e.get a with
  | some _,some tj,.v (.int _ n)=>match tj.d with
   | .num k=>Ar k n λn=>K (.v (.int k n)) none h
   | _=>c
  | _,_,_=>c
 | .makeInterface t a=>match S.ty.find t,e.get a with
  | some b,.v v=>match b.d with
   | .NS=>False
   | _=>K (.v (.iface t v)) none h
  | _,_=>False
 | .makeFunc A w m=>bp e w.toList λw=>bp e m.toList λm=>K (.v (.func A ⟨w⟩ ⟨m⟩)) none h
 | .slice t a I H mx=>match S.ty.find t,mx with
  | some ⟨_,_,_,_,.sl el⟩,none=>match S.ty.find el,e.get a with
   | some b,.v (.slice p n cap)=>lU b.size p n cap (fG e I) (fG e H) λv=>K (.v v) none h
   | _,_=>c
  | _,_=>c
 | .fieldAddr t a i=>match S.ty.find t with
  | some ⟨_,_,_,_,.str w⟩=>match w[i]? with
   | some (k,_)=>match e.get a with
    | .l u f=>K (.l u (f+k)) none h
    | .v (.pointer (some ⟨d,f,none⟩))=>K (.v (.pointer (some ⟨d,f+k,none⟩))) none h
    | _=>False
   | none=>False
  | _=>False
 | .field t a i=>match S.ty.find t with
  | some ⟨_,_,_,_,.str w⟩=>match w[i]? with
   | some (k,u)=>match e.get a,S.ty.find u with
    | .v (.agg m),some b=>match take b.size (drop k m.toList)with
     | some j=>match b.agg with
      | true=>iY j λj=>K (.v (.agg ⟨j⟩)) none h
      | false=>match j with
       | [v]=>K (.v v) none h
       | _=>False
     | none=>False
    | _,_=>False
   | none=>False
  | _=>False
 | .indexAddr t a i=>match e.get i with
  | .v (.int _ i)=>match S.ty.find t with
   | some ⟨_,_,_,_,.sl el⟩=>match S.ty.find el,e.get a with
    | some b,.v (.slice p n _)=>Ob (0<=i/\i < n) (Ptr p λd f=>K (.v (.pointer (some ⟨d,f+i.toNat*b.size,none⟩))) none h)
    | some b,.r u n=>Ob (0<=i/\i < n) (K (.l u (i.toNat*b.size)) none h)
    | _,_=>False
   | some ⟨_,_,_,_,.arr n el⟩=>match S.ty.find el,e.get a with
    | some b,.v (.pointer (some ⟨d,f,none⟩))=>Ob (0<=i/\i < n) (K (.v (.pointer (some ⟨d,f+i.toNat*b.size,none⟩))) none h)
    | some b,.l u f=>Ob (0<=i/\i < n) (K (.l u (f+i.toNat*b.size)) none h)
    | _,_=>False
   | _=>False
  | _=>False
 | .index t a i=>match e.get a,e.get i with
  | .v (.string s),.v (.int _ i)=>match S.ty.find t with
   | some ⟨_,_,_,_,.NR⟩=>Ob (0<=i/\i < s.size) (K (.v (.int .u8 ((s.data.toList.getD i.toNat 0).toNat:Nat))) none h)
   | _=>c
  | _,_=>c
 | .extract a i=>match e.get a with
  | .v (.tuple j)=>match xo 0 (take 1 (drop i j.toList))with
   | some v=>K (.v v) none h
   | none=>False
  | _=>False
 | .makeSlice t n q=>match S.ty.find t with
  | some ⟨_,_,_,_,.sl el⟩=>match S.ty.find el,e.get n,e.get q with
   | some b,.v (.int .i64 n),.v (.int .i64 q)=>Ob (n=q/\0<=n/\n*b.bytes<=2 ^ 44/\n<=2 ^ 44) (EF h (List.replicate n.toNat b.zero).flatten el λd z=>K (.v (.slice (some ⟨d,0,none⟩) n.toNat n.toNat)) none z)
   | _,_,_=>False
  | _=>False
 | .call {callee:=.value A,args:=args,.. }=>match e.get A with
  | .v G=>bp e args.toList λargs=>mZ P S (x && !La F A) G args h K E
  | _=>False
 | .call {callee:=.builtin .len,args:=args,argTypes:=ts}=>match args.toList with
  | [a]=>match e.get a with
   | .v (.slice _ n _)=>match (ts.toList.head?).bind S.ty.find with
    | some ⟨_,_,_,_,.sl _⟩=>K (.v (.int .i64 n)) none h
    | _=>False
   | .r _ n=>match (ts.toList.head?).bind S.ty.find with
    | some ⟨_,_,_,_,.sl _⟩=>K (.v (.int .i64 n)) none h
    | _=>False
   | _=>c
  | _=>False
 | .call {callee:=.builtin .max,args:=args,.. }=>match args.toList with
  | [a,d]=>match e.get a,e.get d with
   | .v (.int k x),.v (.int k' y)=>match sameKind k k' with
    | true=>K (.v (.int k (mx x y))) none h
    | false=>c
   | _,_=>c
  | _=>c
 | .call {callee:=.builtin .min,args:=args,.. }=>match args.toList with
  | [a,d]=>match e.get a,e.get d with
   | .v (.int k x),.v (.int k' y)=>match sameKind k k' with
    | true=>K (.v (.int k (mn x y))) none h
    | false=>c
   | _,_=>c
  | _=>c
 | .call {callee:=.builtin .cap,args:=args,argTypes:=ts}=>match args.toList with
  | [a]=>match e.get a with
   | .v (.slice _ _ q)=>match (ts.toList.head?).bind S.ty.find with
    | some ⟨_,_,_,_,.sl _⟩=>K (.v (.int .i64 q)) none h
    | _=>False
   | _=>c
  | _=>False
 | .call {callee:=.builtin .append,args:=args,argTypes:=ts}=>match args.toList,ts.toList with
  | [a,y],[t,u]=>match S.ty.find t,S.ty.find u with
   | some ⟨_,_,_,_,.sl el⟩,some ⟨_,_,_,_,.sl _⟩=>match S.ty.find el with
    | some b=>match e.get a with
     | .v (.slice p n cap)=>appArg e b.size (e.get y) h λC j=>App b.bytes b.size b.zero el h p n cap C j λv z=>K (.v v) none z
     | _=>False
    | none=>False
   | _,_=>c
  | _,_=>False
 | .panic a=>match e.get a with
  | .v (.iface t v)=>E [{v:=.iface t v,recovered:=false}] h
  | _=>False
 | _=>c
def guardOf (a:List Oper) (g:Option (Nat × Bool)):Option (Option Nat × Bool):=match g with
 | none=>none
 | some (j,w)=>match nth a j with
  | some o=>some (o.dst,w)
  | none=>some (none,w)
def p9 (P:Program) (S:iK) (F:Fs) (x:Bool) (all:List Oper) (o:Oper) (e:Env) (h:Heap) (K:Env->Heap->Prop) (E:List PanicEntry->Heap->Prop):Prop :=
 let run (e:Env):Prop:=exec P S F x o e h (λs a c=>K (e.put o.dst s a) c) E
 let skip (e:Env):Prop:=K (e.put o.dst (.v undef) none) h
 match guardOf all o.guard with
 | none=>run e
 | some (none,_)=>skip e
 | some (some d,w)=>match e.s d with
  | .v (.bool b)=>er b
   (match w with
    | true=>run (e.put (some d) (.v (.bool true)) none)
    | false=>skip (e.put (some d) (.v (.bool true)) none))
   (match w with
    | true=>skip (e.put (some d) (.v (.bool false)) none)
    | false=>run (e.put (some d) (.v (.bool false)) none))
  | .v (.tuple _)=>skip e
  | _=>False
def Ig (P:Program) (S:iK) (F:Fs) (x:Bool) (all:List Oper) (K:Env->Heap->Prop) (E:List PanicEntry->Heap->Prop):List Nat->Env->Heap->Prop
 | [],e,h=>K e h
 | i::r,e,h=>match nth all i with
  | some o=>p9 P S F x all o e h (λa b=>Ig P S F x all K E r a b) E
  | none=>False
def yJ (P:Program) (S:iK) (F:Fs) (all:List Oper) (K:Env->Heap->Prop) (E:List PanicEntry->Heap->Prop):List Oper->Env->Heap->Prop
 | [],e,h=>K e h
 | o::r,e,h=>p9 P S F false all o e h (λa b=>yJ P S F all K E r a b) E
def AP (id:Nat):List (Nat × List Nat)->Option (List Nat)
 | []=>none
 | (i,p)::r=>match Nat.beq id i with
  | true=>some p
  | false=>AP id r
def AQ (id:Nat):List (Nat × PT)->Option PT
 | []=>none
 | (i,p)::r=>match Nat.beq id i with
  | true=>some p
  | false=>AQ id r
def qb (P:Program) (S:iK) (F:Fs) (all:List Oper) (K:Env->Heap->Prop) (E:List PanicEntry->Heap->Prop):PT->Env->Heap->Prop
 | .nil,e,h=>K e h
 | .eJ,_,_=>True
 | .one i r,e,h=>match nth all i with
  | some o=>p9 P S F true all o e h (λa b=>qb P S F all K E r a b) E
  | none=>False
 | .alt i t r,e,h=>(match nth all i with
  | some o=>p9 P S F true all o e h (λa b=>qb P S F all K E t a b) E
  | none=>False)/\qb P S F all K E r e h
def drawn (P:Program) (S:iK) (F:Fs) (id:Nat) (all:List Oper) (K:Env->Heap->Prop) (E:List PanicEntry->Heap->Prop) (e:Env) (h:Heap):Prop :=
 match AP id F.bX with
 | some p=>Ig P S F true all K E p e h
 | none=>match AQ id F.trees with
  | some t=>qb P S F all K E t e h
  | none=>False
def den (P:Program) (S:iK) (F:Fs):Code->(Ex->Env->Heap->Prop)->Env->Heap->Prop
 | .skip,K,e,h=>K .normal e h
 | .label _,K,e,h=>K .normal e h
 | .region id ops dr,K,e,h=>match dr with
  | false=>yJ P S F ops.toList (K .normal) (λc d=>K (.jj c) e d) ops.toList e h
  | true=>drawn P S F id ops.toList (K .normal) (λc d=>K (.jj c) e d) e h
 | .seq a b,K,e,h=>den P S F a (λx f d=>match x with | .normal=>den P S F b K f d | .exit i=>K (.exit i) f d | .ret=>K .ret f d | .jj c=>K (.jj c) f d) e h
 | .cond c a b,K,e,h=>match e.get c with
  | .v (.bool t)=>er t (den P S F a K e h) (den P S F b K e h)
  | _=>False
 | .block id c,K,e,h=>den P S F c (λx f d=>match x with
  | .normal=>K .normal f d
  | .exit i=>match Nat.beq i id with
   | true=>K .normal f d
   | false=>K (.exit i) f d
  | .ret=>K .ret f d
  | .jj c=>K (.jj c) f d) e h
 | .loop c,K,e,h=>Lp (λK e h=>den P S F c K e h) K e h
 | .exit i,K,e,h=>K (.exit i) e h
 | .ret,K,e,h=>K .ret e h
 | .scope c,K,e,h=>den P S F c K e h
 | _,_,_,_=>False
set_option linter.unusedSimpArgs false
set_option linter.unusedVariables false
def j9:TypeDesc->TD
 | .bool=>.Rb
 | .int k=>.num k
 | .string=>.NR
 | .struct a=>.str (a.toList.map λf=>(f.offset,f.type))
 | .array n e=>.arr n e
 | .slice e=>.sl e
 | .pointer e=>.ptr e
 | .interface _=>.NS
 | _=>.dm
def Le:TypeDesc->Bool
 | .struct _=>true
 | .array _ _=>true
 | _=>false
def Lf (P:Program) (t:TypeId):Option TI :=
 match P.info? t,P.underlying t with
 | some i,some d=>match i.zero with
  | some z=>some ⟨i.size,i.bytes,z.cells.toList,Le d,j9 d⟩
  | none=>none
 | _,_=>none
def Tree.list {a:Type}:Tree a->List (Nat × a)
 | .leaf=>[]
 | .node l k v r=>l.list++(k,v)::r.list
theorem Tree.jG {a:Type} (i:Nat) (v:a):∀ t:Tree a,t.find i=some v->(i,v)∈t.list
 | .leaf,h=>by simp[Tree.find]at h
 | .node l k u r,h=>by
  unfold Tree.find at h;split at h
  ·rename_i b;have:=Nat.eq_of_beq_eq_true b;simp only[Option.some.injEq]at h;subst h;subst this;simp[Tree.list]
  split at h
  ·have:=Tree.jG i v l h;simp[Tree.list,this]
  have:=Tree.jG i v r h;simp[Tree.list,this]
structure dg (P:Program) (S:iK):Prop where
 ty:∀ t ti,S.ty.find t=some ti->Lf P t=some ti
 fn:∀ g,S.lo<=g->g < S.nf->g≠S.Qm->∃ fn,P.funcs[g]? = some fn/\fn.body.isNone=false/\(fn.name == "runtime.NumGoroutine")=false
 mix:P.follows .mixedOrders=true
 one:∀ t ti,S.ty.find t=some ti->ti.agg=false->ti.size=1
 zero:∀ t ti,S.ty.find t=some ti->ti.zero.length=ti.size
 cP:∀ t ti fs,S.ty.find t=some ti->ti.d=.str fs->∀ f∈fs,∃ tj,S.ty.find f.2=some tj/\tj.size≠0
 elems:∀ t ti k el,S.ty.find t=some ti->ti.d=.arr k el->(S.ty.find el).isSome
def NU (S:iK) (p:TypeId × TI):Bool:=(p.2.agg||p.2.size==1)&&p.2.zero.length==p.2.size&&match p.2.d with
 | .str b=>b.all λf=>match S.ty.find f.2 with
  | some c=>c.size != 0
  | none=>false
 | .arr _ a=>(S.ty.find a).isSome
 | _=>true
def Wb (P:Program) (g:Nat):Bool:=match P.funcs[g]? with
 | some a=>!a.body.isNone && !(a.name == "runtime.NumGoroutine")
 | none=>false
theorem dg.mk' {P:Program} {S:iK} (e:S.ty.list.map (λp=>Lf P p.1)=S.ty.list.map (λp=>some p.2))
  (c:(List.range' S.lo (S.nf-S.lo)).all (λg=>Nat.beq g S.Qm||Wb P g)=true) (a:P.follows .mixedOrders=true)
  (b:S.ty.list.all (NU S)=true):dg P S where
 ty t ti h:=by
  have a:=Tree.jG t ti _ h;have:=(List.map_inj_left.1 e) _ a;exact this
 fn g b h2 h3:=by
  have:=List.all_eq_true.1 c g (by simp[List.mem_range'_1];omega);simp only[Bool.or_eq_true]at this;have:=this.resolve_left (λj=>h3 (Nat.eq_of_beq_eq_true j));unfold Wb at this;split at this
  ·rename_i fn d;simp at this;exact⟨fn,d,by simpa using this.1,by simpa using this.2⟩
  simp at this
 mix:=a
 one t ti h ha:=by
  have a:=Tree.jG t ti _ h;have:=List.all_eq_true.1 b _ a;simp only[NU,Bool.and_eq_true]at this;simpa [ha]using this.1.1
 zero t ti h:=by
  have a:=Tree.jG t ti _ h;have:=List.all_eq_true.1 b _ a;simp only[NU,Bool.and_eq_true]at this;simpa using this.1.2
 cP t ti fs h hd f c:=by
  have a:=Tree.jG t ti _ h;have:=List.all_eq_true.1 b _ a;simp only[NU,Bool.and_eq_true,hd]at this;have:=List.all_eq_true.1 this.2 f c;split at this
  ·rename_i m i;exact⟨m,i,by simpa using this⟩
  cases this
 elems t ti k el h hd:=by
  have a:=Tree.jG t ti _ h;have:=List.all_eq_true.1 b _ a;simp only[NU,Bool.and_eq_true,hd]at this;exact this.2
theorem dg.info {P:Program} {S:iK} (b:dg P S) {t:TypeId} {a:TI} (h:S.ty.find t=some a) :
  ∃ i z d,P.info? t=some i/\i.zero=some z/\P.underlying t=some d/\i.size=a.size/\i.bytes=a.bytes/\z.cells.toList=a.zero/\Le d=a.agg/\j9 d=a.d:=by
 have h:=b.ty t a h;unfold Lf at h;split at h
 ·rename_i i d e c;split at h
  ·rename_i z f;simp only[Option.some.injEq]at h;subst h;exact⟨i,z,d,e,f,c,rfl,rfl,rfl,rfl,rfl⟩
  cases h
 cases h
section
variable {P:Program} {S:iK} (hS:dg P S)
include hS
theorem run_sizeOf {t:TypeId} {a:TI} (h:S.ty.find t=some a) (w:World):(sizeOf t).run P w=.ok a.size w:=by
 obtain⟨o,z,d,b,m,i,c,f,g,e,j⟩:=hS.info h;simp[sizeOf,typeInfo,b,c]
theorem iL {t:TypeId} {a:TI} (h:S.ty.find t=some a) (w:World):∃ z,(zeroValue t).run P w=.ok z w/\z.cells.toList=a.zero:=by
 obtain⟨o,z,e,c,d,i,j,g,b,f,m⟩:=hS.info h;exact⟨z,by simp[zeroValue,typeInfo,c,d],b⟩
theorem cQ {t:TypeId} {a:TI} (h:S.ty.find t=some a) (w:World):∃ d,(underlying t).run P w=.ok d w/\Le d=a.agg/\j9 d=a.d:=by
 obtain⟨o,z,d,i,m,c,j,f,g,b,e⟩:=hS.info h;exact⟨d,by simp[underlying,c],b,e⟩
theorem nW {t:TypeId} {a:TI} (h:S.ty.find t=some a) (w:World):(isAgg t).run P w=.ok a.agg w:=by
 obtain⟨d,c,b,_⟩:=cQ hS h w;simp only[isAgg,Sem.run_bind,c,Result.andThen_ok];rw[<-b];cases d<;>rfl
theorem jz {t:TypeId} {a:TI} (h:S.ty.find t=some a) (w:World):∃ i,(typeInfo t).run P w=.ok i w/\i.bytes=a.bytes/\i.size=a.size:=by
 obtain⟨i,z,e,c,o,j,d,b,g,f,m⟩:=hS.info h;exact⟨i,by simp[typeInfo,c],b,d⟩
end
def jH (a:Nat->Nat) (e:Env):Slot->Value->Prop
 | .v x,v=>v=x
 | .l t off,v=>v=.pointer (some ⟨a t,off,none⟩)/\(e.b t).isSome
 | .r t n,v=>v=.slice (some ⟨a t,0,none⟩) n n/\(e.b t).isSome
 | .x,_=>True
structure Rel (D:List Deferred) (n:Nat) (h0:Heap) (w0:World) (β:Nat->Nat) (e:Env) (h:Heap) (a:Act) (w:World):Prop where
 size:a.tmps.size=n
 tV:a.defers=D
 slot:∀ t,jH β e (e.s t) (a.tmps.getD t undef)
 box:∀ t cs,e.b t=some cs->(∃ ty,w.heap[β t]? = some (.cells cs.toArray ty (0,0)))/\h (β t)=none/\w0.heap.size<=β t
 inj:∀ t u,(e.b t).isSome->(e.b u).isSome->β t=β u->t=u
 mv:cK h0 w0 h w
theorem Cv {H:Array Obj} {o:Obj} (c:∀ cs t z,o=Obj.cells cs t z->z=(0,0)) {b:Nat} {cs:Array Value} {t:TypeId} {z:Nat × Nat} (a:(H.push o)[b]? = some (Obj.cells cs t z)):z=(0,0)\/H[b]? = some (Obj.cells cs t z):=by
 rw[Array.getElem?_push]at a;split at a
 ·simp only[Option.some.injEq]at a;exact .inl (c _ _ _ a)
 exact .inr a
theorem Cw {H:Array Obj} {k:Nat} {o:Obj} (c:∀ cs t z,o=Obj.cells cs t z->z=(0,0)) {b:Nat} {cs:Array Value} {t:TypeId} {z:Nat × Nat} (a:(H.setIfInBounds k o)[b]? = some (Obj.cells cs t z)):z=(0,0)\/H[b]? = some (Obj.cells cs t z):=by
 rw[Array.getElem?_setIfInBounds]at a;split at a
 ·split at a
  ·simp only[Option.some.injEq]at a;exact .inl (c _ _ _ a)
  cases a
 exact .inr a
theorem cK.refl {h:Heap} {w:World} (a:∀ b o,h b=some o->w.heap[b]? = some o):cK h w h w :=
 ⟨a,λ_ _ _=>rfl,λ_ h=>.inl h,Nat.le_refl _,λ_ _ _ _ h=>.inr h,rfl,rfl,rfl⟩
theorem cK.trans {h0 d e:Heap} {f g h:World} (a:cK h0 f d g) (b:cK d g e h):cK h0 f e h where
 view:=b.view
 aJ x hx hn:=by
  have j:d x=none:=by
   cases i:d x with
   | none=>rfl
   | some o =>
    rcases a.tG x (by simp[i])with c|c
    ·exact absurd hn c
    omega
  rw[b.aJ x (by have:=a.size;omega) j,a.aJ x hx hn]
 tG x hx:=by
  rcases b.tG x hx with c|c
  ·exact a.tG x c
  exact .inr (by have:=a.size;omega)
 size:=Nat.le_trans a.size b.size
 fz x cs t z hx:=(b.fz x cs t z hx).elim .inl (a.fz x cs t z)
 out:=⟨b.out.1.trans a.out.1,b.out.2.1.trans a.out.2.1,b.out.2.2.trans a.out.2.2⟩
theorem dX {w:World} {b:Nat} {o:Obj} (h:w.heap[b]? = some o):b < w.heap.size:=(Array.getElem?_eq_some_iff.1 h).1
variable {D:List Deferred} {n:Nat} {h0:Heap} {w0:World} {β:Nat->Nat} {e:Env} {h:Heap} {a:Act} {w:World}
theorem Rel.fresh (r:Rel D n h0 w0 β e h a w):h w.heap.size=none:=by
 cases b:h w.heap.size with
 | none=>rfl
 | some o=>have:=dX (r.mv.view _ _ b);omega
theorem Rel.eval (r:Rel D n h0 w0 β e h a w) {x:Operand} {v:Value} (b:e.get x=.v v):a.eval x=v:=by
 cases x with
 | tmp t=>have:=r.slot t;simp only[Env.get]at b;rw[b]at this;exact this
 | const c=>simp only[Env.get,Slot.v.injEq]at b;simp[Act.eval,b]
 | global g=>simp only[Env.get,Slot.v.injEq]at b;simp[Act.eval,b]
 | func f=>simp only[Env.get,Slot.v.injEq]at b;simp[Act.eval,b]
theorem Rel.kn (r:Rel D n h0 w0 β e h a w) (x:Operand):jH β e (e.get x) (a.eval x):=by
 cases x with
 | tmp t=>exact r.slot t
 | const c=>rfl
 | global g=>rfl
 | func f=>rfl
theorem tW (a:Act) (d:Option Nat) (v:Value) (t:Nat) (f:∀ b,d=some b->b < a.tmps.size) :
  (a.put d v).tmps.getD t undef=match d with|none=>a.tmps.getD t undef|some b=>if t=b then v else a.tmps.getD t undef:=by
 cases d with
 | none=>rfl
 | some b =>
  have h:=f b rfl;simp only[Act.put,Array.getD_eq_getD_getElem?,Array.getElem?_setIfInBounds];by_cases e:t=b
  ·subst e;simp[h]
  have c:¬b=t:=λh=>e h.symm;simp[e,c]
theorem tX (a:Act) (d:Option Nat) (v:Value):(a.put d v).tmps.size=a.tmps.size:=by cases d<;>simp[Act.put]
theorem put_defers (a:Act) (d:Option Nat) (v:Value):(a.put d v).defers=a.defers:=by cases d<;>rfl
theorem Rel.put (r:Rel D n h0 w0 β e h a w) {h':Heap} {w':World} (m:cK h w h' w') (d:Option Nat) (j:∀ b,d=some b->b < n) {s:Slot} {v:Value} (p:jH β e s v) :
  Rel D n h0 w0 β (e.put d s none) h' (a.put d v) w' where
 size:=by rw[tX,r.size]
 tV:=by rw[put_defers,r.tV]
 slot t:=by
  rw[tW a d v t (by rw[r.size];exact j)];cases d with
  | none=>exact r.slot t
  | some b =>
   simp only[Env.put];by_cases c:t=b
   ·simp only[c,if_true];cases s<;>exact p
   simp only[c,if_false];have:=r.slot t;revert this;cases e.s t<;>exact id
 box t cs hb:=by
  obtain⟨⟨q,f⟩,g,i⟩:=r.box t cs hb;have o:=dX f;refine⟨⟨q,by rw[m.aJ _ o g,f]⟩,?_,i⟩;cases c:h' (β t)with
  | none=>rfl
  | some u =>
   rcases m.tG (β t) (by simp[c])with h'|h'
   ·exact absurd g h'
   omega
 inj:=r.inj
 mv:=r.mv.trans m
theorem Rel.Lg (r:Rel D n h0 w0 β e h a w) (d:Nat) (A:d < n) (i:e.b d=none) (cs:List Value) (ty:TypeId) {s:Slot} {v:Value}
  (C:(s=.l d 0/\v=.pointer (some ⟨w.heap.size,0,none⟩))\/(∃ k,s=.r d k/\v=.slice (some ⟨w.heap.size,0,none⟩) k k)) :
  Rel D n h0 w0 (λt=>if t=d then w.heap.size else β t) (e.put (some d) s (some (d,cs))) h (a.put (some d) v) {w with heap:=w.heap.push (.cells cs.toArray ty (0,0))} where
 size:=by rw[tX,r.size]
 tV:=by rw[put_defers,r.tV]
 slot t:=by
  rw[tW a (some d) v t (by rintro _ ⟨⟩;rw[r.size];exact A)];simp only[Env.put];by_cases p:t=d
  ·simp only[p,if_true];rcases C with ⟨rfl,rfl⟩|⟨k,rfl,rfl⟩<;>simp[jH]
  simp only[p,if_false];have:=r.slot t;revert this
  cases G:e.s t with
  | v x=>exact id
  | x=>exact id
  | l u H =>
   intro ⟨b,c⟩;have f:u≠d:=λf=>by rw[f,i]at c;cases c
   simp[jH,f,b,c]
  | r u k =>
   intro ⟨b,c⟩;have f:u≠d:=λf=>by rw[f,i]at c;cases c
   simp[jH,f,b,c]
 box t m HT:=by
  simp only[Env.put]at HT;by_cases p:t=d
  ·simp only[p,if_true,Option.some.injEq]at HT ⊢;subst HT;exact⟨⟨ty,Z⟩,r.fresh,r.mv.size⟩
  simp only[p,if_false]at HT ⊢;obtain⟨⟨y,b⟩,c,o⟩:=r.box t m HT;have j:=dX b;exact⟨⟨y,by rw[Array.getElem?_push_lt j];rw[Array.getElem?_eq_getElem j]at b;exact b⟩,c,o⟩
 inj t u ht f Np:=by
  simp only[Env.put]at ht f;by_cases b:t=d
  ·by_cases c:u=d
   ·rw[b,c]
   simp only[b,if_true,c,if_false]at Np f;obtain⟨m,q⟩:=Option.isSome_iff_exists.1 f;obtain⟨⟨y,o⟩,_,_⟩:=r.box u m q;have:=dX o;omega
  by_cases c:u=d
  ·simp only[b,if_false,c,if_true]at Np ht;obtain⟨m,q⟩:=Option.isSome_iff_exists.1 ht;obtain⟨⟨y,o⟩,_,_⟩:=r.box t m q;have:=dX o;omega
  simp only[b,if_false,c,if_false]at Np ht f;exact r.inj t u ht f Np
 mv:={
  view:=λg z i=>by
   have b:=r.mv.view g z i;have j:=dX b;show(w.heap.push _)[g]? = some z;rw[Array.getElem?_push_lt j];rw[Array.getElem?_eq_getElem j]at b;exact b
  aJ:=λg i B=>by
   have b:=r.mv.aJ g i B;have j:g < w.heap.size:=by have:=r.mv.size;omega
   show(w.heap.push _)[g]? = _;rw[Array.getElem?_push_lt j,<-b,Array.getElem?_eq_getElem j]
  tG:=r.mv.tG
  size:=by have:=r.mv.size;show w0.heap.size<=(w.heap.push _).size;simp;omega
  fz:=λg m E F i=>(Cv (λ_ _ _ h=>by cases h;rfl) i).elim .inl (r.mv.fz g m E F)
  out:=r.mv.out}
theorem cK.push (i:∀ b o,h b=some o->w.heap[b]? = some o) (o:Obj) (g:∀ cs t z,o=Obj.cells cs t z->z=(0,0):=by intro _ _ _ h;cases h<;>rfl):cK h w (h.set w.heap.size o) {w with heap:=w.heap.push o} where
 view b o' hb:=by
  show(w.heap.push o)[b]? = some o';simp only[Heap.set]at hb;split at hb
  ·rename_i f;subst f;simp only[Option.some.injEq]at hb;simp[hb]
  have c:=i b o' hb;have d:=dX c;rw[Array.getElem?_push_lt d];rw[Array.getElem?_eq_getElem d]at c;exact c
 aJ b hb _:=by
  show(w.heap.push o)[b]? = _;rw[Array.getElem?_push_lt hb,Array.getElem?_eq_getElem hb]
 tG b hb:=by
  simp only[Heap.set]at hb;split at hb
  ·exact .inr O
  exact .inl hb
 size:=by show w.heap.size<=(w.heap.push o).size;simp
 fz _ _ _ _ hb:=Cv g hb
 out:=⟨rfl,rfl,rfl⟩
theorem cK.EN (j:∀ b o,h b=some o->w.heap[b]? = some o) {b:Nat} {o:Obj} (f:h b=some o) (i:Obj) {w':World} (g:w'.heap=w.heap.setIfInBounds b i) (p:w'.os=w.os/\w'.tape=w.tape/\w'.output=w.output) (q:∀ cs t z,i=Obj.cells cs t z->z=(0,0):=by intro _ _ _ h;cases h<;>rfl):cK h w (h.set b i) w' where
 view c x hc:=by
  rw[g,Array.getElem?_setIfInBounds];simp only[Heap.set]at hc;have m:=dX (j b o f);split at hc
  ·rename_i d;subst d;simp only[Option.some.injEq]at hc;simp[m,hc]
  rename_i d;rw[if_neg (λh=>d h.symm)];exact j c x hc
 aJ c hc hn:=by
  rw[g,Array.getElem?_setIfInBounds];rw[if_neg];intro d;subst d;rw[f]at hn;cases hn
 tG c hc:=by
  simp only[Heap.set]at hc;split at hc
  ·rename_i d;subst d;exact .inl (by simp[f])
  exact .inl hc
 size:=by rw[g];simp
 fz _ _ _ _ f:=by rw[g]at f;exact Cw q f
 out:=p
def Sound (D:List Deferred) (P:Program) (n:Nat) (h0:Heap) (w0:World) (o:Oper) (a:Act) (w:World) (e:Env) (K:Slot->Bx->Heap->Prop) (E:List PanicEntry->Heap->Prop):Prop :=
 ∀(next:Act->World->Prop) (Q:Exit->Act->World->Prop),
  (∀ s f c i b d,K s f c->Rel D n h0 w0 i (e.put o.dst s f) c b d->next b d) ->
  (∀ g c b d,E g c->cK h0 w0 c d->b.defers=D->Q (.panic g) b d)->o.wp P a w next Q
variable {P:Program} {S:iK} {o:Oper} {K:Slot->Bx->Heap->Prop} {E:List PanicEntry->Heap->Prop}
theorem gN (r:Rel D n h0 w0 β e h a w) (f:∀ b,o.dst=some b->b < n) {v:Value} {w':World} (g:(execOp a.eval o).run P w=.ok (.value v) w')
  {h':Heap} (m:cK h w h' w') {s:Slot} (i:jH β e s v) (d:K s none h'):Sound D P n h0 w0 o a w e K E:=by
 intro next Q c j;unfold Oper.wp;rw[g];exact c s none h' β _ w' d (r.put m o.dst f i)
theorem tY (r:Rel D n h0 w0 β e h a w) (f:∀ b,o.dst=some b->b < n) {w':World} (g:(execOp a.eval o).run P w=.ok .skip w')
  {h':Heap} (m:cK h w h' w') (d:K (.v undef) none h'):Sound D P n h0 w0 o a w e K E:=by
 intro next Q c i;unfold Oper.wp;rw[g];exact c (.v undef) none h' β _ w' d (r.put m o.dst f rfl)
theorem gG (r:Rel D n h0 w0 β e h a w) (d:∀ b,o.dst=some b->b < n) {v:Value} (f:(execOp a.eval o).run P w=.ok (.value v) w)
  {s:Slot} (g:jH β e s v) (c:K s none h):Sound D P n h0 w0 o a w e K E :=
 gN r d f (cK.refl r.mv.view) g c
theorem bN (r:Rel D n h0 w0 β e h a w) (d:∀ b,o.dst=some b->b < n) {v:Value} (f:(execOp a.eval o).run P w=.ok (.value v) w)
  (c:K (.v v) none h):Sound D P n h0 w0 o a w e K E :=
 gN r d f (cK.refl r.mv.view) (s:=.v v) rfl c
theorem v8 (r:Rel D n h0 w0 β e h a w) (j:∀ b,o.dst=some b->b < n) {d:Nat} (c:o.dst=some d) (i:e.b d=none) {cs:List Value} {ty:TypeId} {v:Value}
  (m:(execOp a.eval o).run P w=.ok (.value v) {w with heap:=w.heap.push (.cells cs.toArray ty (0,0))}) {s:Slot}
  (p:(s=.l d 0/\v=.pointer (some ⟨w.heap.size,0,none⟩))\/(∃ k,s=.r d k/\v=.slice (some ⟨w.heap.size,0,none⟩) k k)) (g:K s (some (d,cs)) h):Sound D P n h0 w0 o a w e K E:=by
 intro next Q f q;unfold Oper.wp;rw[m];have:=r.Lg d (j d c) i cs ty p;rw[<-c]at this;exact f s _ h _ _ _ g this
theorem lV {F:Fs} {d:Option Nat} {b:Nat} (h:isLocal F d=some b):d=some b:=by
 unfold isLocal at h;split at h
 ·split at h
  ·simpa using h
  cases h
 cases h
theorem bJ (l:List Value) (K:List Value->Prop):iY l K↔K l:=by
 induction l generalizing K with
 | nil=>exact Iff.rfl
 | cons a r b=>exact b (λc=>K (a::c))
theorem qc (r:Rel D n h0 w0 β e h a w) (f:∀ d,o.dst=some d->d < n) {F:Fs} {t:TypeId} {cs:List Value}
  (g:(execOp a.eval o).run P w=.ok (.value (.pointer (some ⟨w.heap.size,0,none⟩))) {w with heap:=w.heap.push (.cells cs.toArray t)})
  (b:newVar F t o.dst cs e h K):Sound D P n h0 w0 o a w e K E:=by
 unfold newVar at b;split at b
 ·rename_i j c;have c:=lV c;split at b
  ·rename_i i;rw[bJ]at b;exact v8 r f c i (ty:=t) g (.inl ⟨rfl,rfl⟩) b
  exact b.elim
 rw[lQ]at b;unfold xk at b;exact gN r f g (cK.push r.mv.view _) (s:=.v (.pointer (some ⟨w.heap.size,0,none⟩))) rfl (b _ r.fresh)
theorem xp (r:Rel D n h0 w0 β e h a w) (f:∀ d,o.dst=some d->d < n) {F:Fs} {t:TypeId} {cs:List Value} {k:Nat}
  (g:(execOp a.eval o).run P w=.ok (.value (.slice (some ⟨w.heap.size,0,none⟩) k k)) {w with heap:=w.heap.push (.cells cs.toArray t)})
  (b:newRow F t o.dst k cs e h K):Sound D P n h0 w0 o a w e K E:=by
 unfold newRow at b;split at b
 ·rename_i j c;have c:=lV c;split at b
  ·rename_i i;rw[bJ]at b;exact v8 r f c i (ty:=t) g (.inr ⟨k,rfl,rfl⟩) b
  exact b.elim
 rw[lQ]at b;unfold xk at b;exact gN r f g (cK.push r.mv.view _) (s:=.v (.slice (some ⟨w.heap.size,0,none⟩) k k)) rfl (b _ r.fresh)
theorem nX (f:∀ b o,h b=some o->w.heap[b]? = some o) {b off:Nat} {v:Value} (c:rd h b off=some v):w.cell? ⟨b,off,none⟩=some v:=by
 unfold rd at c;split at c
 ·rename_i g t i d;simp[World.cell?,f _ _ d,c]
 cases c
theorem js (b off i:Nat):(⟨b,off,none⟩:Addr).add i=⟨b,off+i,none⟩:=by
 unfold Addr.add;split
 ·rename_i c;simp[c]
 rfl
theorem run_loadCells (vs:List Value):∀(b off i:Nat) (c:Array Value),(∀ j v,vs[j]? = some v->w.cell? ⟨b,off+(i+j),none⟩=some v) ->
  (loadCellsFrom ⟨b,off,none⟩ i vs.length c).run P w=.ok (c++vs.toArray) w:=by
 induction vs with
 | nil=>intro b off i c _;simp[loadCellsFrom]
 | cons v vs m =>
  intro b off i c d;have f:=d 0 v rfl;simp only[List.length_cons,loadCellsFrom,Sem.run_bind,run_load,js];rw[show off+i=off+(i+0)from rfl,f];simp only[Result.andThen_ok];rw[m b off (i+1) (c.push v) (λj u g=>by have:=d (j+1) u (by simpa using g);rw[show i+1+j=i+(j+1)by omega];exact this)];simp
theorem m3 {b:Nat}:∀(n off:Nat) (vs:List Value),dQ h b off n=some vs->vs.length=n/\∀ j v,vs[j]? = some v->rd h b (off+j)=some v:=by
 intro n;induction n with
 | zero=>intro off vs c;simp[dQ]at c;subst c;simp
 | succ n p =>
  intro off vs c;simp only[dQ]at c;split at c
  ·rename_i v r f g;simp only[Option.some.injEq]at c;subst c;obtain⟨i,m⟩:=p _ _ g;refine⟨by simp[i],λj u d=>?_⟩;cases j with
   | zero=>simp at d;subst d;exact f
   | succ j=>simp at d;rw[show off+(j+1)=off+1+j by omega];exact m j u d
  cases c
theorem nY:∀(n:Nat) (l vs:List Value),take n l=some vs->vs=l.take n/\n<=l.length
 | 0,l,vs,h=>by simp[take]at h;simp[h]
 | n+1,[],vs,h=>by simp[take]at h
 | n+1,a::r,vs,h=>by
  simp only[take]at h;split at h
  ·rename_i t d;simp only[Option.some.injEq]at h;obtain⟨b,c⟩:=nY n r t d;subst h;simp[b,c]
  cases h
theorem drop_eq:∀(n:Nat) (l:List Value),drop n l=l.drop n
 | 0,l=>rfl
 | n+1,[]=>rfl
 | n+1,_::r=>by simp[drop,drop_eq n r]
theorem rL:∀(l:List Value) (i:Nat) (v:Value),HS l i v=l.set i v
 | [],i,v=>by simp[HS]
 | a::r,0,v=>rfl
 | a::r,i+1,v=>by simp[HS,rL r i v]
theorem sL:∀(vs l:List Value) (off:Nat),(dU l off vs).length=l.length
 | [],l,off=>rfl
 | v::r,l,off=>by simp[dU,sL r,rL]
theorem yK (r:Rel D n h0 w0 β e h a w) {t:Nat} {cs:List Value} (c:e.b t=some cs) {off:Nat} {v:Value} (d:cs[off]? = some v):w.cell? ⟨β t,off,none⟩=some v:=by
 obtain⟨⟨f,b⟩,_,_⟩:=r.box t cs c;simp[World.cell?,b,d]
theorem AR {t off k:Nat} {vs:List Value} (c:tU e t off k=some vs):∃ cs,e.b t=some cs/\vs.length=k/\∀ j v,vs[j]? = some v->cs[off+j]? = some v:=by
 unfold tU at c;split at c
 ·rename_i cs g;obtain⟨d,f⟩:=nY _ _ _ c;rw[drop_eq]at d f;refine⟨cs,g,by rw[d];simp at f ⊢;omega,λj v b=>?_⟩;rw[d]at b;have i:j < k:=by
   have:=(List.getElem?_eq_some_iff.1 b).1;simp at this;omega
  rw[List.getElem?_take_of_lt i,List.getElem?_drop]at b;exact b
 cases c
theorem v9 (A:dg P S) (r:Rel D n h0 w0 β e h a w) {t:TypeId} {i:TI} {x:Operand}
  (B:S.ty.find t=some i) (b:load i (e.get x) e h K):∃ s v,a.eval x=.pointer (some s)/\(loadVar t s).run P w=.ok v w/\K (.v v) none h:=by
 have y:=r.kn x;have G:∀(m g:Nat) (d:List Value),a.eval x=.pointer (some ⟨m,g,none⟩)->d.length=i.size->(∀ j v,d[j]? = some v->w.cell? ⟨m,g+j,none⟩=some v) ->
   (i.agg=true->K (.v (.agg ⟨d⟩)) none h)->(i.agg=false->∀ v,d=[v]->K (.v v) none h)->(i.agg=false->∃ v,d=[v])->∃ s v,a.eval x=.pointer (some s)/\(loadVar t s).run P w=.ok v w/\K (.v v) none h:=by
  intro m g d I u p L M N;have J:=run_loadCells (P:=P) (w:=w) d m g 0 #[] (λj v f=>by rw[Nat.zero_add];exact p j v f);rw[u]at J;cases c:i.agg with
  | true =>
   refine⟨_,.agg ⟨d⟩,I,?_,L c⟩;simp only[loadVar,Sem.run_bind,nW A B,Result.andThen_ok,c,if_true,run_sizeOf A B,loadCells,J];simp
  | false =>
   obtain⟨v,rfl⟩:=N c;refine⟨_,v,I,?_,M c v rfl⟩;have:=p 0 v rfl;simp only[Nat.add_zero]at this;simp[loadVar,nW A B,c,this]
 unfold load at b;split at b
 ·rename_i H g q;rw[q]at y;split at b
  ·rename_i d F;obtain⟨T,Q,u,p⟩:=AR F;refine G (β H) g d y.1 u (λj v f=>yK r Q (p j v f)) (λc=>?_) (λc v C=>?_) (λc=>?_)
   ·simp only[c]at b;rwa [bJ]at b
   ·simp only[c,C]at b;exact b
   simp only[c]at b;split at b
   ·exact⟨_,rfl⟩
   exact b.elim
  exact b.elim
 ·rename_i m g q;rw[q]at y;cases c:i.agg with
  | true =>
   simp only[c]at b;rw[pZ]at b;unfold AM at b;obtain⟨d,F,z⟩:=b;obtain⟨u,p⟩:=m3 _ _ _ F;exact G m g d y u (λj v f=>nX r.mv.view (p j v f)) (λ_=>z) (λh=>by rw[c]at h;cases h) (λh=>by rw[c]at h;cases h)
  | false =>
   simp only[c]at b;split at b
   ·rename_i R;rw[tR]at b;unfold K9 at b;obtain⟨v,C,z⟩:=b;refine G m g [v] y (by simp[R]) (λj H f=>?_) (λh=>by rw[c]at h;cases h) (λ_ H q=>by simp at q;subst q;exact z) (λ_=>⟨v,rfl⟩);cases j with
    | zero=>simp at f;subst f;exact nX r.mv.view C
    | succ j=>simp at f
   exact b.elim
 exact b.elim
theorem tZ (i:dg P S) (r:Rel D n h0 w0 β e h a w) (j:∀ b,o.dst=some b->b < n) {t:TypeId} {c:TI} {x:Operand} (m:o.op=.load t x)
  (p:S.ty.find t=some c) (q:load c (e.get x) e h K):Sound D P n h0 w0 o a w e K E:=by
 obtain⟨s,v,d,f,g⟩:=v9 i r p q;exact bN r j (by simp[execOp,m,d,Instr.loadAt,Instr.sureAddr,f]) g
theorem AS {v:Value} (b:jF v=true):v.oneCell'=true:=by cases v<;>simp_all [jF,Value.oneCell']
theorem EO {w:World} {b:Nat} {o:Obj} (c:w.heap[b]? = some o):w.heap.setIfInBounds b o=w.heap:=by
 apply Array.ext_getElem?
 intro i;rw[Array.getElem?_setIfInBounds];split
 ·rename_i d;subst d;simp[dX c,(Array.getElem?_eq_some_iff.1 c).2]
 rfl
theorem xq {w:World} {b off:Nat} {cs:Array Value} {ty:TypeId} (c:w.heap[b]? = some (.cells cs ty (0,0))) (v:Value) :
  (w.setCell ⟨b,off,none⟩ v).heap=w.heap.setIfInBounds b (.cells (cs.setIfInBounds off v) ty (0,0)):=by
 apply Array.ext_getElem?
 intro i;simp only[World.setCell,Array.getElem?_modify,Array.getElem?_setIfInBounds];by_cases d:b=i
 ·subst d;have f:=(Array.getElem?_eq_some_iff.1 c).2;simp[dX c,f]
 simp[d]
theorem fH (b:Nat) (ty:TypeId):∀(vs:List Value) (off i:Nat) (w:World) (cs:Array Value),w.heap[b]? = some (.cells cs ty (0,0))->off+i+vs.length<=cs.size->dD vs=true ->
  ∃ w',(storeCells ⟨b,off,none⟩ vs i).run P w=.ok () w'/\w'.heap=w.heap.setIfInBounds b (.cells (dU cs.toList (off+i) vs).toArray ty (0,0))/\w'.os=w.os/\w'.tape=w.tape/\w'.output=w.output:=by
 intro vs;induction vs with
 | nil =>
  intro off i w cs c f _;refine⟨w,by simp[storeCells],?_,rfl,rfl,rfl⟩;simp only[dU];rw[show cs.toList.toArray=cs from rfl,EO c]
 | cons v vs y =>
  intro off i w cs c f d;simp only[dD]at d;split at d
  ·rename_i x;have t:w.cell? ⟨b,off+i,none⟩=some (cs[off+i]'(by simp at f;omega)):=by simp[World.cell?,c]
   have u:w.frozen? ⟨b,off+i,none⟩=false:=by simp[World.frozen?,c]
   have j:=xq (off:=off+i) c v;have s:(w.setCell ⟨b,off+i,none⟩ v).heap[b]? = some (.cells (cs.setIfInBounds (off+i) v) ty (0,0)):=by
    rw[j];simp[dX c]
   obtain⟨w',m,p,q⟩:=y off (i+1) _ (cs.setIfInBounds (off+i) v) s (by simp at f ⊢;omega) d;refine⟨w',?_,?_,q⟩
   ·simp only[storeCells,Sem.run_bind,js,run_store P w _ v .plain (AS x),t,u];simpa using m
   rw[p,j];simp only[dU,rL,Array.toList_setIfInBounds];apply Array.ext_getElem?
   intro k;simp only[Array.getElem?_setIfInBounds];by_cases g:b=k
   ·subst g;simp[dX c];rfl
   simp[g]
  cases d
theorem Rel.NV (r:Rel D n h0 w0 β e h a w) (d:Option Nat) (J:∀ i,d=some i->i < n) {t:Nat} {cs m:List Value} {ty:TypeId} (j:e.b t=some cs)
  (N:w.heap[β t]? = some (.cells cs.toArray ty (0,0))) {w':World} (c:w'.heap=w.heap.setIfInBounds (β t) (.cells m.toArray ty (0,0))) (y:w'.os=w.os/\w'.tape=w.tape/\w'.output=w.output) :
  Rel D n h0 w0 β (e.put d (.v undef) (some (t,m))) h (a.put d undef) w' where
 size:=by rw[tX,r.size]
 tV:=by rw[put_defers,r.tV]
 slot u:=by
  rw[tW a d undef u (by rw[r.size];exact J)];have z:∀ s v,jH β e s v->jH β (e.put d (.v undef) (some (t,m))) s v:=by
   intro s v;cases s with
   | v x=>exact id
   | x=>exact id
   | l k V=>intro ⟨h1,p⟩;refine⟨h1,?_⟩;simp only[Env.put];split<;>simp_all
   | r k T=>intro ⟨h1,p⟩;refine⟨h1,?_⟩;simp only[Env.put];split<;>simp_all
  cases d with
  | none=>exact z _ _ (r.slot u)
  | some i =>
   by_cases b:u=i
   ·simp only[b,if_true,Env.put];rfl
   have:=z _ _ (r.slot u);simp only[b,if_false,Env.put]at this ⊢;exact this
 box u ds hu:=by
  simp only[Env.put]at hu;have L:=dX N;obtain⟨_,p,C⟩:=r.box t cs j;by_cases b:u=t
  ·simp only[b,if_true,Option.some.injEq]at hu;subst hu;subst b;exact⟨⟨ty,by rw[c];simp[L]⟩,p,C⟩
  simp only[b,if_false]at hu;obtain⟨⟨Q,F⟩,G,H⟩:=r.box u ds hu;refine⟨⟨Q,?_⟩,G,H⟩;rw[c,Array.getElem?_setIfInBounds,if_neg]
  ·exact F
  intro f;exact b (r.inj u t (by simp[hu]) (by simp[j]) f.symm)
 inj u k hu hk f:=by
  refine r.inj u k ?_ ?_ f
  ·simp only[Env.put]at hu;split at hu<;>simp_all
  simp only[Env.put]at hk;split at hk<;>simp_all
 mv:={
  view:=λg o q=>by
   rw[c,Array.getElem?_setIfInBounds,if_neg]
   ·exact r.mv.view g o q
   intro f;subst f;rw[(r.box t cs j).2.1]at q;cases q
  aJ:=λg I M=>by
   rw[c,Array.getElem?_setIfInBounds,if_neg]
   ·exact r.mv.aJ g I M
   intro f;have:=(r.box t cs j).2.2;omega
  tG:=r.mv.tG
  size:=by rw[c];simp;exact r.mv.size
  fz:=λg B t2 R A=>by
   rw[c]at A;exact(Cw (λ_ _ _ h=>by cases h;rfl) A).elim .inl (r.mv.fz g B t2 R)
  out:=⟨y.1.trans r.mv.out.1,y.2.1.trans r.mv.out.2.1,y.2.2.trans r.mv.out.2.2⟩}
theorem lW {c:TI} {v:Value} {f:List Value->Prop} (b:jr c v f):∃ vs,f vs/\((c.agg=true/\v=.agg ⟨vs⟩/\vs.length=c.size)\/(c.agg=false/\vs=[v]/\jF v=true)):=by
 unfold jr at b;split at b
 ·rename_i d;split at b
  ·rename_i g;rw[bJ]at b;split at b
   ·rename_i i;exact⟨g.toList,b,.inl ⟨d,rfl,Nat.eq_of_beq_eq_true i⟩⟩
   exact b.elim
  exact b.elim
 rename_i d;split at b
 ·rename_i j;exact⟨[v],b,.inr ⟨d,rfl,j⟩⟩
 exact b.elim
theorem xu {v:Value} (b:jF v=true):v.cells = #[v]:=by cases v<;>simp_all [jF,Value.cells]
theorem kL {b:TI} {v:Value} {vs:List Value} (g:b.agg=false->b.size=1)
  (i:(b.agg=true/\v=.agg ⟨vs⟩/\vs.length=b.size)\/(b.agg=false/\vs=[v]/\jF v=true)):v.cells=⟨vs⟩/\vs.length=b.size:=by
 rcases i with ⟨f,c,d⟩|⟨f,c,d⟩
 ·exact⟨by rw[c];rfl,d⟩
 subst c;exact⟨xu d,by simp[g f]⟩
theorem yL (F:dg P S) (r:Rel D n h0 w0 β e h a w) (G:∀ B,o.dst=some B->B < n) {t:TypeId} {u:TI} {x y:Operand} {v:Value} (V:o.op=.store t x y)
  (J:S.ty.find t=some u) (hy:e.get y=.v v) (b:store u (e.get x) v e h K):Sound D P n h0 w0 o a w e K E:=by
 have j:=r.kn x;have X:=F.one t u J;unfold store at b;obtain⟨A,b,Y⟩:=lW b;split at b
 ·exact b.elim
 rename_i H;obtain⟨N,T⟩:=kL X Y;have I:∀ f c d,a.eval x=.pointer (some ⟨f,c,none⟩)->(storeCells ⟨f,c,none⟩ A).run P w=.ok () d->(execOp a.eval o).run P w=.ok .skip d:=by
  intro f c d Q W;simp[execOp,V,Q,r.eval hy,Instr.storeAt,Instr.sureAddr,storeVar,run_sizeOf F J,N,T,W]
 split at b
 ·rename_i L c m;rw[m]at j;split at b
  ·rename_i i g;split at b
   ·rename_i hle;have hle:=Nat.le_of_ble_eq_true hle;rw[bJ]at b;obtain⟨⟨z,C⟩,h2,h3⟩:=r.box L i g;obtain⟨d,p,q,s⟩:=fH (P:=P) (β L) z A c 0 w i.toArray C (by simpa using hle) H;intro next aa R hE;unfold Oper.wp;rw[I _ _ _ j.1 p];exact R _ _ h β _ d b (r.NV o.dst G g C (by simpa using q) s)
   exact b.elim
  exact b.elim
 ·rename_i f c m;rw[m]at j;rw[AO]at b;unfold NT at b;obtain⟨i,z,g,hle,M⟩:=b;obtain⟨d,p,q,s⟩:=fH (P:=P) f z A c 0 w i (r.mv.view _ _ g) (by simpa using hle) H;refine tY r G (I _ _ _ j p) (cK.EN r.mv.view g _ (by simpa using q) s) M
 exact b.elim
theorem yM (f:dg P S) (r:Rel D n h0 w0 β e h a w) (i:∀ d,o.dst=some d->d < n) {F:Fs} {t:TypeId} {c:TI} {x:Operand} {v:Value} (j:o.op=.box t x)
  (m:S.ty.find t=some c) (p:e.get x=.v v) (b:jr c v λcs=>newVar F t o.dst cs e h K):Sound D P n h0 w0 o a w e K E:=by
 obtain⟨u,b,q⟩:=lW b;obtain⟨g,s⟩:=kL (f.one t c m) q;refine qc r i ?_ b;simp[execOp,j,r.eval p,Instr.box,Go.newVar,Go.newRow,g]
theorem yN (d:dg P S) (r:Rel D n h0 w0 β e h a w) (g:∀ c,o.dst=some c->c < n) {F:Fs} {t:TypeId} {b:TI} (i:o.op=.alloc t)
  (j:S.ty.find t=some b) (m:newVar F t o.dst b.zero e h K):Sound D P n h0 w0 o a w e K E:=by
 refine qc r g ?_ m;obtain⟨z,p,f⟩:=iL d j w;have:z.cells=b.zero.toArray:=by rw[<-f]
 simp[execOp,i,Instr.alloc,Go.newVar,Go.newRow,p,this]
theorem ua:∀(vs:List Value) (off k:Nat) (cs:Array Value),
  ((vs.zipIdx k).foldl (λcs (c,j)=>cs.setIfInBounds (off+j) c) cs).toList=dU cs.toList (off+k) vs
 | [],off,k,cs=>rfl
 | v::vs,off,k,cs=>by
  simp only[List.zipIdx_cons,List.foldl_cons,dU,rL];rw[ua vs off (k+1) (cs.setIfInBounds (off+k) v)];simp[Nat.add_assoc]
theorem rM (d:Nat->Option Nat) (f:Nat->Option (Nat × Nat)):∀(b:List (Nat × Value)) (c:List (Nat × List Value)) (cs:Array Value) (out:List Value),
  lR d cs.toList c=some out->b.length=c.length ->
  (∀ i (x:i < b.length) (y:i < c.length),c[i].1=b[i].1/\(b[i].2).cells=⟨c[i].2⟩/\∀ off,d b[i].1=some off->f b[i].1=some (off,c[i].2.length)) ->
  Instr.fill f cs b=some out.toArray
 | [],[],cs,out,h,_,_=>by simp[lR]at h;simp[Instr.fill,<-h]
 | [],_::_,_,_,_,h,_=>by simp at h
 | _::_,[],_,_,_,h,_=>by simp at h
 | (i,v)::b,(j,vs)::c,cs,out,h,hl,vO=>by
  have h0:=vO 0 Z Z;simp only[List.getElem_cons_zero]at h0;obtain⟨p,g,u⟩:=h0;subst p;simp only[lR]at h;split at h
  ·rename_i off t;split at h
   ·rename_i hle;have hle:=Nat.le_of_ble_eq_true hle;simp only[Instr.fill,u off t,g];have m:=ua vs off 0 cs;have z:¬(vs.length≠vs.length||decide (off+vs.length > cs.size))=true:=by simp at hle ⊢;omega
    simp only[List.size_toArray];rw[if_neg (by simpa using hle)];refine rM d f b c _ out ?_ (by simpa using hl) (λk q s=>?_)
    ·rw[<-h];congr 1
     rw[<-Nat.add_zero off,<-m];simp[Array.foldl_toList]
    have:=vO (k+1) (by simpa using q) (by simpa using s);simpa using this
   cases h
  cases h
theorem o7 {j:Nat->Option TI}:∀(c:List (Nat × Operand)) (Kp:List (Nat × List Value)->Prop),parts e j c Kp ->
  ∃ b,Kp b/\b.length=c.length/\∀ i (f:i < c.length) (g:i < b.length),b[i].1=c[i].1/\∃ v d,e.get c[i].2=.v v/\j c[i].1=some d /\
   ((d.agg=true/\v=.agg ⟨b[i].2⟩/\b[i].2.length=d.size)\/(d.agg=false/\b[i].2=[v]/\jF v=true))
 | [],Kp,h=>⟨[],h,rfl,λi f=>by simp at f⟩
 | (k,x)::c,Kp,h=>by
  simp only[parts]at h;split at h
  ·rename_i v d t s;obtain⟨y,h,u⟩:=lW h;obtain⟨b,m,p,q⟩:=o7 c _ h;refine⟨(k,y)::b,m,by simp[p],λi f g=>?_⟩;cases i with
   | zero=>exact⟨rfl,v,d,t,s,u⟩
   | succ i=>exact q i (by simpa using f) (by simpa using g)
  exact h.elim
theorem Cx (z:List Value):∀ n,p7 n z=(List.replicate n z).flatten
 | 0=>rfl
 | n+1=>by simp[p7,List.replicate_succ,Cx z n]
theorem yO (z:List Value) (c:0 < z.length):∀(n i:Nat),i < n*z.length->((List.replicate n z).flatten)[i]? = z[i % z.length]?
 | 0,i,h=>by simp at h
 | n+1,i,h=>by
  rw[List.replicate_succ,List.flatten_cons];by_cases b:i < z.length
  ·rw[List.getElem?_append_left b,Nat.mod_eq_of_lt b]
  rw[List.getElem?_append_right O,yO z c n (i-z.length) (by rw[Nat.succ_mul]at h;omega)];congr 1
  rw[<-Nat.mod_eq_sub_mod O]
theorem qd (z:List Value) (n:Nat):((List.replicate n z).flatten).length=n*z.length:=by simp
theorem ud (z:Array Value) (n:Nat):(Array.range (n*z.size)).map (λi=>z[i % z.size]!)=((List.replicate n z.toList).flatten).toArray:=by
 by_cases c:0 < z.size
 ·apply Array.ext_getElem?
  intro i;by_cases b:i < n*z.size
  ·simp only[Array.getElem?_map,List.getElem?_toArray];rw[yO z.toList (by simpa using c) n i (by simpa using b)];have f:i % z.size < z.size:=Nat.mod_lt _ c;simp[b,f]
  rw[Array.getElem?_eq_none (by simp;omega),List.getElem?_toArray,List.getElem?_eq_none (by simp;omega)]
 have h0:z.size=0:=by omega
 have d:z.toList=[]:=by simpa using h0
 simp[h0,d]
theorem sM (g:dg P S):∀(fs:List Field),(∀ f∈fs,(S.ty.find f.type).isSome) ->
  ∃ l:List (Nat × Nat),(∀ w:World,(fs.mapM (λ(f:Field)=>(do pure (f.offset,<-Go.sizeOf f.type):Sem (Nat × Nat)))).run P w=.ok l w)/\l.length=fs.length /\
   ∀ i (c:i < fs.length) d,S.ty.find (fs[i]).type=some d->l[i]? = some ((fs[i]).offset,d.size)
 | [],_=>⟨[],λw=>Z,rfl,λi c=>by simp at c⟩
 | f::fs,vO=>by
  obtain⟨l,p,q,s⟩:=sM g fs (λm t=>vO m (by simp[t]));obtain⟨d,j⟩:=Option.isSome_iff_exists.1 (vO f Z);refine⟨(f.offset,d.size)::l,λw=>?_,by simp[q],λi c u b=>?_⟩
  ·rw[List.mapM_cons];simp only[Sem.run_bind,run_sizeOf g j,Result.andThen_ok,Sem.run_pure,p]
  cases i with
  | zero=>simp only[List.getElem_cons_zero]at b ⊢;rw[j]at b;simp only[Option.some.injEq]at b;subst b;rfl
  | succ i=>simp only[List.getElem_cons_succ,List.getElem?_cons_succ]at b ⊢;exact s i (by simpa using c) u b
theorem yP (g:dg P S) (r:Rel D n h0 w0 β e h a w) (hd:∀ I,o.dst=some I->I < n) {t:TypeId} {u:Array (Nat × Operand)} (F:o.op=.build t u)
  (f:Lb S t u.toList e λv=>K (.v v) none h):Sound D P n h0 w0 o a w e K E:=by
 unfold Lb at f;split at f
 ·rename_i V A;split at f
  ·exact f.elim
  rename_i R Lc c;obtain⟨qs,f,hlen,J1⟩:=o7 _ _ f;split at f
  ·rename_i x hcs;rw[bJ]at f;obtain⟨W,Q,NW⟩:=iL g A w;obtain⟨H,J,Dw,z⟩:=cQ g A w;refine gG r hd (v:=.agg ⟨x⟩) ?_ (s:=.v (.agg ⟨x⟩)) rfl f;have L:∀ B:Nat->Option (Nat × Nat),(∀ i j,Lc i=some j->∀ p,R i=some p->B i=some (p,j.size)) ->
     Instr.fill B W.cells (u.map λ(i,G)=>(i,a.eval G)).toList=some x.toArray:=by
    intro B hp;refine rM R B _ qs W.cells x (by rw[NW];exact hcs) (by simp[hlen]) (λi y hj=>?_);have NX:i < u.toList.length:=by simpa using y
    obtain⟨X,v,j,Y,b,d⟩:=J1 i NX hj;have Re:j.agg=false->j.size=1:=by
     unfold places at c;split at c
     ·simp only[Option.some.injEq,Prod.mk.injEq]at c;rw[<-c.2]at b;simp only at b;split at b
      ·exact g.one _ _ b
      cases b
     ·simp only[Option.some.injEq,Prod.mk.injEq]at c;rw[<-c.2]at b;exact g.one _ _ b
     cases c
    obtain⟨h5,h6⟩:=kL Re d;simp only[Array.toList_map,List.getElem_map];refine⟨X,?_,λp F=>?_⟩
    ·rw[r.eval Y];exact h5
    rw[h6];exact hp _ _ b p F
   unfold places at c;have xw:(execOp a.eval o).run P w=((Instr.build t (u.map λ(i,G)=>(i,a.eval G))).run P w).andThen (λv w'=>.ok (.value v) w'):=by
    simp[execOp,F]
   rw[xw];split at c
   ·rename_i fs q;simp only[Option.some.injEq,Prod.mk.injEq]at c;cases H<;>simp only[j9,q]at z<;>try cases z
    rename_i C;obtain⟨l,ko,hl2,we⟩:=sM g C.toList (λm hf=>by
     obtain⟨tj,N,_⟩:=g.cP t V _ A q (m.offset,m.type) (List.mem_map.2 ⟨m,hf,rfl⟩);simp only at N;simp[N])
    have:=L (λi=>l.toArray[i]?) (λi j b p d=>by
     rw[<-c.2]at b;rw[<-c.1]at d;simp only[List.getElem?_map]at b d;by_cases y:i < C.toList.length
     ·rw[List.getElem?_eq_getElem y]at b d;simp only[Option.map_some,Option.some.injEq]at b d;rw[List.getElem?_toArray,we i y j b,d]
     rw[List.getElem?_eq_none O]at b;cases b)
    simp only[Instr.build,Sem.run_bind,Q,J,Result.andThen_ok];have hm:∀ w,(C.mapM (λ(m:Field)=>(do pure (m.offset,<-Go.sizeOf m.type):Sem (Nat × Nat)))).run P w=.ok l.toArray w:=by
     intro w;rw[Array.mapM_eq_mapM_toList,Sem.run_map,ko w];rfl
    rw[hm];simp only[Result.andThen_ok,this,Sem.run_pure]
   ·rename_i k el q;simp only[Option.some.injEq,Prod.mk.injEq]at c;cases H<;>simp only[j9,q]at z<;>try cases z
    obtain⟨T,M⟩:=Option.isSome_iff_exists.1 (g.elems t V _ _ A q);have:=L (λi=>some (i*T.size,T.size)) (λi j b p d=>by
     rw[<-c.2]at b;rw[<-c.1]at d;simp only[M,Option.some.injEq]at b d;subst b;split at d
     ·simp only[Option.some.injEq]at d;rw[d]
     cases d)
    simp only[Instr.build,Sem.run_bind,Q,J,Result.andThen_ok,run_sizeOf g M,this,Sem.run_pure]
   cases c
  exact f.elim
 exact f.elim
theorem rN (c:dg P S) (r:Rel D n h0 w0 β e h a w) (Q:∀ s,o.dst=some s->s < n) {F:Fs} {t m:TypeId} {k:Nat} {A b:TI} {g:Array (Nat × Operand)} (j:o.op=.buildSlice t k g)
  (Cy:S.ty.find t=some A) (Lh:A.d=.sl m) (d:S.ty.find m=some b) (hle:k*b.size<=16777216)
  (f:parts e (λ_=>some b) g.toList λvs=>match lR (λi=>some (i*b.size)) (p7 k b.zero) vs with
     | some cs=>newRow F m o.dst k cs e h K
     | none=>False):Sound D P n h0 w0 o a w e K E:=by
 obtain⟨qs,f,X,J1⟩:=o7 _ _ f;split at f
 ·rename_i cs N;refine xp r Q ?_ f;obtain⟨G,R,Dw,q⟩:=cQ c Cy w;rw[Lh]at q;cases G<;>simp only[j9]at q<;>try cases q
  obtain⟨C,hz,v⟩:=iL c d w;have y:C.cells.size=b.size:=by rw[<-c.zero _ _ d,<-v];simp
  have p:Instr.fill (λi=>some (i*b.size,b.size)) ((List.replicate k b.zero).flatten).toArray (g.map λ(i,x)=>(i,a.eval x)).toList=some cs.toArray:=by
   refine rM (λi=>some (i*b.size)) _ _ qs _ cs (by rw[<-Cx];exact N) (by simp[X]) (λi T W=>?_);have V:i < g.toList.length:=by simpa using T
   obtain⟨H,B,ti',I,u,J⟩:=J1 i V W;simp only[Option.some.injEq]at u;subst u;obtain⟨L,M⟩:=kL (c.one _ _ d) J;simp only[Array.toList_map,List.getElem_map];refine⟨H,?_,λoff j=>?_⟩
   ·rw[r.eval I];exact L
   simp only[Option.some.injEq]at j;rw[M,j]
  have xw:(execOp a.eval o).run P w=((Instr.buildSlice t k (g.map λ(i,x)=>(i,a.eval x))).run P w).andThen (λB w'=>.ok (.value B) w'):=by
   simp[execOp,j]
  rw[xw];simp only[Instr.buildSlice,Sem.run_bind,R,Result.andThen_ok,run_sizeOf c d];rw[if_neg (by simp;omega)];by_cases h0:k*b.size=0
  ·rw[if_pos h0];have Y:(List.replicate k b.zero).flatten=[]:=by
    apply List.eq_nil_of_length_eq_zero;rw[qd,c.zero _ _ d];exact h0
   rw[Y]at p;simp only[h0,Sem.run_bind,Sem.run_pure,Result.andThen_ok];simp only[show Array.range 0 = #[]from rfl,Array.map_empty];rw[p];simp[Go.newRow]
  rw[if_neg h0];have z:=ud C.cells k;rw[y,v]at z;simp only[Sem.run_bind,hz,Result.andThen_ok,Sem.run_pure,y,z,p];simp[Go.newRow]
 exact f.elim
theorem tg (g:dg P S) (r:Rel D n h0 w0 β e h a w) (G:∀ q,o.dst=some q->q < n) {t j:TypeId} {B f:TI} {x y:Operand} {k c:Int} (N:o.op=.makeSlice t x y)
  (T:S.ty.find t=some B) (R:B.d=.sl j) (i:S.ty.find j=some f) (W:e.get x=.v (.int .i64 k)) (X:e.get y=.v (.int .i64 c))
  (d:Ob (k=c/\0<=k/\k*f.bytes<=2 ^ 44/\k<=2 ^ 44) (EF h (List.replicate k.toNat f.zero).flatten j λb h'=>K (.v (.slice (some ⟨b,0,none⟩) k.toNat k.toNat)) none h')):Sound D P n h0 w0 o a w e K E:=by
 rw[EJ]at d;unfold Qn at d;rw[lQ]at d;unfold xk at d;obtain⟨⟨rfl,NY,hkb,X2⟩,d⟩:=d;refine gN r G (v:=.slice (some ⟨w.heap.size,0,none⟩) k.toNat k.toNat) (w':={w with heap:=w.heap.push (.cells ((List.replicate k.toNat f.zero).flatten).toArray j)}) ?_ (cK.push r.mv.view _) (s:=.v (.slice (some ⟨w.heap.size,0,none⟩) k.toNat k.toNat)) rfl (d _ r.fresh);obtain⟨F,H,Dw,p⟩:=cQ g T w;rw[R]at p;cases F<;>simp only[j9]at p<;>try cases p
 obtain⟨C,Y,u⟩:=iL g i w;obtain⟨aa,I,J,Nq⟩:=jz g i w;have z:C.cells.size=f.size:=by rw[<-g.zero _ _ i,<-u];simp
 have V:IntKind.i64.wrap k=k:=by simp[IntKind.wrap,IntKind.bits,IntKind.signed];omega
 have Q:(execOp a.eval o).run P w=((Instr.makeSlice t (.int .i64 k) (.int .i64 k)).run P w).andThen (λv w'=>.ok (.value v) w'):=by
  simp[execOp,N,r.eval W,r.eval X]
 rw[Q];have L:¬((aa.bytes:Int)*k > 2 ^ 48):=by rw[J,Int.mul_comm];omega
 simp only[Instr.makeSlice,Sem.run_bind,H,Result.andThen_ok,asInt,asIntOf,Sem.run_pure,I,V];rw[if_neg (by simp at L ⊢;omega)];simp only[Sem.run_bind,run_askRoom,Result.andThen_ok,run_sizeOf g i];by_cases m:k.toNat*f.size=0
 ·rw[if_pos m];have M:(List.replicate k.toNat f.zero).flatten=[]:=by
   apply List.eq_nil_of_length_eq_zero;rw[qd,g.zero _ _ i];exact m
  simp[m,M,Go.newRow,show Array.range 0 = #[]from rfl]
 rw[if_neg m];have A:=ud C.cells k.toNat;rw[z,u]at A;simp only[Sem.run_bind,Y,Result.andThen_ok,Sem.run_pure,z,A];simp[Go.newRow]
theorem cG {p q:Prop}:Ob p q↔p/\q:=by rw[EJ];unfold Qn;exact Iff.rfl
theorem add_zero' (a:Addr):a.add 0=a:=by simp[Addr.add]
theorem xy (a:Option Addr) (k:Nat):a.map (λa=>a.add (0*k))=a:=by cases a<;>simp[add_zero']
theorem xz {i:Nat} {p:Option Addr} {m cap:Nat} {c t:Option Operand} {f:Value->Prop} (r:Rel D n h0 w0 β e h a w)
  (b:lU i p m cap (fG e c) (fG e t) f) :
  ∃ l d:Nat,(∀ w:World,(Instr.sliceBounds true m cap (c.map a.eval) (t.map a.eval) none).run P w=.ok (l,d,cap) w) /\
   f (.slice (if cap=l then p else p.map (·.add (l*i))) (d-l) (cap-l)):=by
 have s:∀ H:Nat,lT i p cap (fG e c) H f->∃ l:Nat,(∀ w:World,(match c.map a.eval with
   | some B=>Instr.sliceBound B H .sliceB
   | none=>pure 0).run P w=.ok l w)/\f (.slice (if cap=l then p else p.map (·.add (l*i))) (H-l) (cap-l)):=by
  intro H b;unfold lT at b;cases c with
  | none =>
   simp only[fG]at b;refine⟨0,λw=>Z,?_⟩;rw[xy];simpa using b
  | some x =>
   simp only[fG]at b;split at b
   ·rename_i d;cases d
   ·rename_i k l v;simp only[Option.some.injEq]at v;obtain⟨g,b⟩:=cG.1 b;rw[xm]at b;unfold EL at b;refine⟨l.toNat,λw=>?_,?_⟩
    ·simp only[Option.map_some,r.eval v,Instr.sliceBound,asIntOf,Sem.run_bind,Sem.run_pure,Result.andThen_ok,if_pos g]
    refine b _ (λA=>by rw[if_neg A]) (λy=>by rw[if_pos y])
   exact b.elim
 unfold lU at b;cases t with
 | none =>
  simp only[fG]at b;obtain⟨l,j,q⟩:=s m b;refine⟨l,m,λw=>?_,q⟩;have:=j w;cases c<;>simp_all [Instr.sliceBounds]
 | some C =>
  simp only[fG]at b;split at b
  ·rename_i d;cases d
  ·rename_i k x u;simp only[Option.some.injEq]at u;obtain⟨g,b⟩:=cG.1 b;obtain⟨l,j,q⟩:=s x.toNat b;clear b s;refine⟨l,x.toNat,λw=>?_,q⟩;have:=j w;cases c with
   | none =>
    simp only[Option.map_none,Sem.run_pure]at this;simp only[Instr.sliceBounds,Option.map_some,Option.map_none,r.eval u,Instr.sliceBound,asIntOf,Sem.run_bind,Sem.run_pure,Result.andThen_ok,if_true,if_pos g];injection this with h3 _
    rw[h3]
   | some F =>
    simp only[Option.map_some]at this;have z:(Instr.sliceBound (.int k x) cap .sliceAcap).run P w=.ok x.toNat w:=by
     simp only[Instr.sliceBound,asIntOf,Sem.run_bind,Sem.run_pure,Result.andThen_ok,if_pos g]
    simp only[Instr.sliceBounds,Option.map_some,r.eval u,Option.isSome_none,Bool.false_eq_true,if_false,if_true,Sem.run_bind,Sem.run_pure,Result.andThen_ok,z,this]
  exact b.elim
theorem yQ (f:dg P S) (r:Rel D n h0 w0 β e h a w) (z:∀ c,o.dst=some c->c < n) {t d:TypeId} {q j:TI} {x:Operand} {i g:Option Operand} {p:Option Addr} {m cap:Nat} (B:o.op=.slice t x i g none)
  (G:S.ty.find t=some q) (C:q.d=.sl d) (F:S.ty.find d=some j) (I:e.get x=.v (.slice p m cap))
  (H:lU j.size p m cap (fG e i) (fG e g) λv=>K (.v v) none h):Sound D P n h0 w0 o a w e K E:=by
 obtain⟨l,L,u,y⟩:=xz (P:=P) r H;refine bN r z ?_ y;obtain⟨s,A,J,b⟩:=cQ f G w;rw[C]at b;cases s<;>simp only[j9]at b<;>try cases b
 simp only[execOp,B,Instr.sliceAt,Instr.slice,Sem.run_bind,A,Result.andThen_ok,r.eval I,Option.map_none,u,run_sizeOf f F,Sem.run_pure]
theorem th (m:dg P S) (r:Rel D n h0 w0 β e h a w) (z:∀ y,o.dst=some y->y < n) {t:TypeId} {v:TI} {fs:List (Nat × TypeId)} {i k:Nat} {u:TypeId} {x:Operand} (J:o.op=.fieldAddr t x i)
  (C:S.ty.find t=some v) (B:v.d=.str fs) (c:fs[i]? = some (k,u))
  (g:match e.get x with
    | .l u off=>K (.l u (off+k)) none h
    | .v (.pointer (some ⟨b,off,none⟩))=>K (.v (.pointer (some ⟨b,off+k,none⟩))) none h
    | _=>False):Sound D P n h0 w0 o a w e K E:=by
 obtain⟨F,H,Q,p⟩:=cQ m C w;rw[B]at p;cases F<;>simp only[j9]at p<;>try cases p
 rename_i G;have d:=r.kn x;rw[List.getElem?_map,Array.getElem?_toList]at c;cases f:G[i]? with
 | none=>rw[f]at c;cases c
 | some j =>
  rw[f]at c;simp only[Option.map_some,Option.some.injEq,Prod.mk.injEq]at c;obtain⟨R,M,L⟩:=m.cP t v _ C B (j.offset,j.type) (List.mem_map.2 ⟨j,Array.mem_toList_iff.2 (Array.mem_of_getElem? f),rfl⟩);have A:∀ b off,a.eval x=.pointer (some ⟨b,off,none⟩)->(execOp a.eval o).run P w=.ok (.value (.pointer (some ⟨b,off+k,none⟩))) w:=by
   intro b off I;simp[execOp,J,I,Instr.fieldAt,H,f,Instr.sureAddr,fieldPlace,run_sizeOf m M,L,js,c.1]
  split at g
  ·rename_i N off q;rw[q]at d;exact gG r z (A _ _ d.1) (s:=.l N (off+k)) ⟨rfl,d.2⟩ g
  ·rename_i b off q;rw[q]at d;exact gG r z (A _ _ d) (s:=.v _) rfl g
  exact g.elim
theorem oQ {k m:Nat} {l vs:List Value} (g:take k (drop m l)=some vs):vs.length=k/\∀ j v,vs[j]? = some v->l[m+j]? = some v:=by
 obtain⟨c,d⟩:=nY _ _ _ g;rw[drop_eq]at c d;refine⟨by rw[c];simp at d ⊢;omega,λj v b=>?_⟩;rw[c]at b;have f:j < k:=by
  have:=(List.getElem?_eq_some_iff.1 b).1;simp at this;omega
 rw[List.getElem?_take_of_lt f,List.getElem?_drop]at b;exact b
theorem AT {k m:Nat} {cs:Array Value} {vs:List Value} (d:take k (drop m cs.toList)=some vs):cs.extract m (m+k)=⟨vs⟩:=by
 obtain⟨b,c⟩:=nY _ _ _ d;rw[drop_eq]at b c;apply Array.ext'
 rw[b];simp[List.extract_eq_take_drop]
theorem yR (d:dg P S) (r:Rel D n h0 w0 β e h a w) (s:∀ q,o.dst=some q->q < n) {t u:TypeId} {A j:TI} {fs:List (Nat × TypeId)} {i k:Nat} {x:Operand} {cs:Array Value} {vs:List Value} (M:o.op=.field t x i)
  (Q:S.ty.find t=some A) (N:A.d=.str fs) (c:fs[i]? = some (k,u)) (R:e.get x=.v (.agg cs)) (g:S.ty.find u=some j)
  (b:match j.agg with
      | true=>iY vs λvs=>K (.v (.agg ⟨vs⟩)) none h
      | false=>match vs with
       | [v]=>K (.v v) none h
       | _=>False) (z:take j.size (drop k cs.toList)=some vs):Sound D P n h0 w0 o a w e K E:=by
 obtain⟨B,H,V,p⟩:=cQ d Q w;rw[N]at p;cases B<;>simp only[j9]at p<;>try cases p
 rename_i F;rw[List.getElem?_map,Array.getElem?_toList]at c;cases m:F[i]? with
 | none=>rw[m]at c;cases c
 | some C =>
  rw[m]at c;simp only[Option.map_some,Option.some.injEq,Prod.mk.injEq]at c;obtain⟨I,J⟩:=c;rw[<-J]at g;have y:(execOp a.eval o).run P w=((part C.type cs k).run P w).andThen (λv T=>.ok (.value v) T):=by
   simp[execOp,M,r.eval R,Instr.field,H,m,asAgg,I]
  cases f:j.agg with
  | true =>
   simp only[f]at b;rw[bJ]at b;refine bN r s ?_ b;rw[y];simp only[part,Sem.run_bind,nW d g,f,Result.andThen_ok,if_true,run_sizeOf d g,Sem.run_pure,AT z]
  | false =>
   simp only[f]at b;rcases vs with _|⟨v,_|_⟩
   ·exact b.elim
   ·refine bN r s ?_ b;obtain⟨_,G⟩:=oQ z;have:=G 0 v rfl;rw[y];have L:cs[k]? = some v:=by simpa using this
    simp[part,nW d g,f,L]
   exact b.elim
theorem tn (B:dg P S) (r:Rel D n h0 w0 β e h a w) (C:∀ L,o.dst=some L->L < n) {t:TypeId} {x y:Operand} {W:IntKind} {i:Int} (M:o.op=.indexAddr t x y)
  (V:e.get y=.v (.int W i))
  (c:match S.ty.find t with
   | some ⟨_,_,_,_,.sl m⟩=>match S.ty.find m,e.get x with
    | some ti,.v (.slice p n _)=>Ob (0<=i/\i < n) (Ptr p λb off=>K (.v (.pointer (some ⟨b,off+i.toNat*ti.size,none⟩))) none h)
    | some ti,.r u n=>Ob (0<=i/\i < n) (K (.l u (i.toNat*ti.size)) none h)
    | _,_=>False
   | some ⟨_,_,_,_,.arr n m⟩=>match S.ty.find m,e.get x with
    | some ti,.v (.pointer (some ⟨b,off,none⟩))=>Ob (0<=i/\i < n) (K (.v (.pointer (some ⟨b,off+i.toNat*ti.size,none⟩))) none h)
    | some ti,.l u off=>Ob (0<=i/\i < n) (K (.l u (off+i.toNat*ti.size)) none h)
    | _,_=>False
   | _=>False):Sound D P n h0 w0 o a w e K E:=by
 have j:=r.kn x;have N:=r.eval V;split at c
 ·rename_i m J;obtain⟨G,H,Q,z⟩:=cQ B J w;cases G<;>simp only[j9]at z<;>try cases z
  have v:∀ d,S.ty.find m=some d->∀ b off A F,a.eval x=.slice (some ⟨b,off,none⟩) A F->(0<=i/\i < A)->(execOp a.eval o).run P w=.ok (.value (.pointer (some ⟨b,off+i.toNat*d.size,none⟩))) w:=by
   intro d g b off A F I f;simp[execOp,M,I,N,Instr.indexAt,H,asIntOf,f,run_sizeOf B g,js]
  split at c
  ·rename_i d p A F g q;rw[q]at j;obtain⟨f,c⟩:=cG.1 c;rw[nV]at c;unfold yI at c;obtain⟨b,off,T,R⟩:=c;subst T;exact bN r C (v d g _ _ _ _ j f) R
  ·rename_i d u A g q;rw[q]at j;obtain⟨f,c⟩:=cG.1 c;refine gG r C (v d g _ _ _ _ j.1 f) (s:=.l u (i.toNat*d.size)) ⟨?_,j.2⟩ c;simp
  exact c.elim
 ·rename_i k m J;obtain⟨G,H,Q,z⟩:=cQ B J w;cases G<;>simp only[j9]at z<;>try cases z
  have v:∀ d,S.ty.find m=some d->∀ b off,a.eval x=.pointer (some ⟨b,off,none⟩)->(0<=i/\i < k)->(execOp a.eval o).run P w=.ok (.value (.pointer (some ⟨b,off+i.toNat*d.size,none⟩))) w:=by
   intro d g b off I f;simp[execOp,M,I,N,Instr.indexAt,H,asIntOf,f,Instr.sureAddr,run_sizeOf B g,js]
  split at c
  ·rename_i d b off g q;rw[q]at j;obtain⟨f,c⟩:=cG.1 c;exact bN r C (v d g _ _ j f) c
  ·rename_i d u off g q;rw[q]at j;obtain⟨f,c⟩:=cG.1 c;exact gG r C (v d g _ _ j.1 f) (s:=.l u (off+i.toNat*d.size)) ⟨rfl,j.2⟩ c
  exact c.elim
 exact c.elim
theorem vP (r:Rel D n h0 w0 β e h a w) (g:∀ d,o.dst=some d->d < n) {x:Operand} {i:Nat} {vs:Array Value} {v:Value} (m:o.op=.extract x i)
  (q:e.get x=.v (.tuple vs)) (b:xo 0 (take 1 (drop i vs.toList))=some v) (p:K (.v v) none h):Sound D P n h0 w0 o a w e K E:=by
 refine bN r g ?_ p;have:vs[i]? = some v:=by
  unfold xo at b;split at b
  ·rename_i l j;obtain⟨f,c⟩:=oQ j;match l,f,b,c with
   | [u],_,b,c =>
    simp only[Option.some.injEq]at b;subst b;have:=c 0 u rfl;simpa using this
  cases b
 simp[execOp,m,r.eval q,Instr.extract,this]
theorem wg (b:Nat):∀(k c:Nat),256<=c->Builtin.growBy b k c<=2 ^ k*c
 | 0,c,_=>by simp[Builtin.growBy]
 | k+1,c,h=>by
  unfold Builtin.growBy;split
  ·have:1<=2 ^ (k+1):=Nat.one_le_two_pow;exact Nat.le_mul_of_pos_left c this
  have d:=wg b k (c+(c+768) / 4) O;have f:c+(c+768) / 4<=2*c:=by omega
  calc _<=2 ^ k*(c+(c+768) / 4):=d
   _<=2 ^ k*(2*c):=Nat.mul_le_mul_left _ f
   _=2 ^ (k+1)*c:=by rw[Nat.pow_succ,Nat.mul_assoc]
theorem ue {need cap:Nat} (h:cap < need):Builtin.nextslicecap need cap<=16*need:=by
 unfold Builtin.nextslicecap;split
 ·omega
 split
 ·omega
 have:=wg need 4 cap O;omega
theorem lX (z:Array Value) (k:Nat):Builtin.zeroCells z k=((List.replicate k z.toList).flatten).toArray:=ud z k
theorem yS (r:Rel D n h0 w0 β e h a w) {B:Nat} {y:Operand} {s:Nat->List Value->Prop} (b:appArg e B (e.get y) h s) :
  ∃ m vs,s m vs/\(∀ c:World,(Builtin.lenOf (a.eval y)).run P c=.ok m c) /\
   ∀ c:World,c.heap=w.heap->(Builtin.firstCells B m (a.eval y)).run P c=.ok vs.toArray c:=by
 have d:=r.kn y;unfold appArg at b;split at b
 ·rename_i I k p;rw[p]at d;split at b
  ·rename_i v F;split at b
   ·rename_i f;have f:=Nat.eq_of_beq_eq_true f;refine⟨k,v,b,λc=>by rw[d.1];rfl,λc j=>?_⟩;rw[d.1];simp only[Builtin.firstCells,loadCells];have:=run_loadCells (P:=P) (w:=c) v (β I) 0 0 #[] (λx C i=>by
     have:=yK r F i;simp only[World.cell?,j]at this ⊢;simpa using this)
    rw[f]at this;simpa using this
   exact b.elim
  exact b.elim
 ·rename_i A k u p;rw[p]at d;rw[p0]at b;unfold AN at b;rcases b with ⟨q,b⟩|⟨t,z,vs,rfl,H,b⟩
  ·have g:a.eval y=.slice A k u:=d;refine⟨k,[],b,λc=>by rw[g];rfl,λc _=>?_⟩;rw[g];rcases q with rfl|q
   ·rfl
   cases A with
   | none=>rfl
   | some J =>
    simp only[Builtin.firstCells,q];rfl
  obtain⟨f,G⟩:=m3 _ _ _ H;have g:a.eval y=.slice (some ⟨t,z,none⟩) k u:=d;refine⟨k,vs,b,λc=>by rw[g];rfl,λc j=>?_⟩;rw[g];simp only[Builtin.firstCells,loadCells];have:=run_loadCells (P:=P) (w:=c) vs t z 0 #[] (λx C i=>by
   have:=nX r.mv.view (G x C i);simp only[World.cell?,j]at this ⊢;simpa using this)
  rw[f]at this;simpa using this
 exact b.elim
theorem xA (d:dg P S) (r:Rel D n h0 w0 β e h a w) (G:∀ Q,o.dst=some Q->Q < n) {t u g:TypeId} {ti tu b:TI} {Wc:TypeId} {x y:Operand} {args:Array Operand} {N:Array TypeId} {p:Option Addr} {k cap:Nat}
  (ho:o.op=.call {callee:=.builtin .append,args:=args,argTypes:=N}) (hargs:args.toList=[x,y]) (Qp:N.toList=[t,u])
  (Cy:S.ty.find t=some ti) (Lh:ti.d=.sl g) (Li:S.ty.find u=some tu) (Lj:tu.d=.sl Wc) (i:S.ty.find g=some b) (Qq:e.get x=.v (.slice p k cap))
  (c:appArg e b.size (e.get y) h λm vs=>App b.bytes b.size b.zero g h p k cap m vs λv h'=>K (.v v) none h'):Sound D P n h0 w0 o a w e K E:=by
 obtain⟨m,vs,c,X,AU⟩:=yS (P:=P) r c;have Ll:args = #[x,y]:=by rw[<-hargs]
 have Rf:N = #[t,u]:=by rw[<-Qp]
 obtain⟨aa,V,Dw,L⟩:=cQ d Cy w;rw[Lh]at L;cases aa<;>simp only[j9]at L<;>try cases L
 obtain⟨du,W,_,M⟩:=cQ d Li w;rw[Lj]at M;cases du<;>simp only[j9]at M<;>try cases M
 have Y:(execOp a.eval o).run P w=((Builtin.append_ #[t,u] o.type #[.slice p k cap,a.eval y]).run P w).andThen (λv w'=>.ok (.value v) w'):=by
  simp[execOp,ho,Ll,Rf,resolve,invoke,builtin,r.eval Qq]
 rw[lS]at c;unfold xl at c;by_cases hle:k+m<=cap
 ·obtain⟨uf,c⟩:=c.1 hle;have R:∀ w',(match p with
    | some a=>(storeCells (a.add (k*b.size)) vs).run P w=.ok () w'
    | none=>w'=w)->(execOp a.eval o).run P w=.ok (.value (.slice p (k+m) cap)) w':=by
   intro w' j;rw[Y];simp only[Builtin.append_,List.getElem?_toArray,List.getElem?_cons_zero,List.getElem?_cons_succ,Sem.run_bind,V,Result.andThen_ok,run_sizeOf d i,W,Sem.run_pure,Bool.false_eq_true,if_false,X,if_pos hle,Bool.not_false,if_true,AU w rfl];cases p with
   | none=>simp only at j;subst j;simp
   | some pa=>simp only at j;simp[j]
  rcases p with _|⟨z,A,_|sp⟩
  ·obtain⟨Rg,F⟩:=c;exact bN r G (R w rfl) F
  ·obtain⟨cs,ty,T,AV,F⟩:=c;obtain⟨w',Rh,Lm,NZ⟩:=fH (P:=P) z ty vs (A+k*b.size) 0 w cs (r.mv.view _ _ T) (by simpa using AV) uf;refine gN r G (R w' ?_) (cK.EN r.mv.view T _ (by simpa using Lm) NZ) (s:=.v (.slice (some ⟨z,A,none⟩) (k+m) cap)) rfl F;simp only[js];exact Rh
  exact c.elim
 obtain⟨X3,N0,B,J,c⟩:=c.2 O;obtain⟨ae,H,I,Nq⟩:=jz d i w;obtain⟨ad,hz,NW⟩:=iL d i w;have Ri:=ue (need:=k+m) (cap:=cap) O;have EP:Builtin.nextslicecap (k+m) cap*b.bytes<=2 ^ 48:=by
  have C:=Nat.mul_le_mul_right b.bytes Ri;rw[Nat.mul_assoc]at C;omega
 have ER:∀ q:World,q.heap=w.heap->(Builtin.firstCells b.size k (.slice p k cap)).run P q=.ok B.toArray q:=by
  intro q j;rcases p with _|⟨z,A,_|sp⟩
  ·rw[J.2];rfl
  ·obtain⟨hl,hc⟩:=m3 _ _ _ J;simp only[Builtin.firstCells,loadCells];have:=run_loadCells (P:=P) (w:=q) B z A 0 #[] (λab v hj=>by
    have:=nX r.mv.view (hc ab v hj);simp only[World.cell?,j]at this ⊢;simpa using this)
   rw[hl]at this;simpa using this
  exact J.elim
 obtain⟨f,Ln,Lo⟩:∃ f,k+m<=f/\(choose (.appendCap (k+m) cap g)).run P w=.ok f {w with drawn:=w.drawn+1}:=by
  refine⟨_,?_,by simp[Question.forced];rfl⟩;simp only[Question.cut];omega
 have N2:ad.cells=b.zero.toArray:=by rw[<-NW]
 have Lq:¬(((k+m:Nat):Int) > IntKind.i64.max):=by
  have:(IntKind.i64.max:Int)=9223372036854775807:=by decide
  rw[this];omega
 refine gN r G (v:=.slice (some ⟨w.heap.size,0,none⟩) (k+m) f) (w':={w with drawn:=w.drawn+1,heap:=w.heap.push (.cells (B++vs++(List.replicate (f-(k+m)) b.zero).flatten).toArray g)}) ?_ ?_ (s:=.v (.slice (some ⟨w.heap.size,0,none⟩) (k+m) f)) rfl (c _ f r.fresh Ln)
 ·rw[Y];simp only[Builtin.append_,List.getElem?_toArray,List.getElem?_cons_zero,List.getElem?_cons_succ,Sem.run_bind,V,Result.andThen_ok,run_sizeOf d i,W,Sem.run_pure,Bool.false_eq_true,if_false,X,if_neg hle,Bool.not_false,if_true,H,I];rw[if_neg (by rintro⟨C,_⟩;exact Lq C)];simp only[Sem.run_bind,Sem.run_pure,Result.andThen_ok,H,I];rw[if_neg O];simp only[Sem.run_bind,Sem.run_pure,Result.andThen_ok,Lo,H,I,run_askRoom];obtain⟨i2,Lr,_,_⟩:=jz d i {w with drawn:=w.drawn+1};simp only[Lr,Result.andThen_ok];rw[ER {w with drawn:=w.drawn+1} rfl];simp only[Result.andThen_ok];rw[AU {w with drawn:=w.drawn+1} rfl];obtain⟨z',Ls,N2⟩:=iL d i {w with drawn:=w.drawn+1};have ES:z'.cells=b.zero.toArray:=by rw[<-N2]
  simp only[Result.andThen_ok,Ls,lX,ES,Go.newRow,Sem.run_bind,run_newObj,Sem.run_pure];simp
 have:=cK.push r.mv.view (.cells (B++vs++(List.replicate (f-(k+m)) b.zero).flatten).toArray g);exact⟨this.view,this.aJ,this.tG,this.size,this.fz,rfl,rfl,rfl⟩
theorem jA:∀(xs:List Operand) (b:List Value->Prop),bp e xs b->∃ vs,b vs/\vs.length=xs.length/\∀ i (c:i < xs.length) (d:i < vs.length),e.get xs[i]=.v vs[i]
 | [],b,h=>⟨[],h,rfl,λi c=>by simp at c⟩
 | x::xs,b,h=>by
  simp only[bp]at h;split at h
  ·rename_i v m;obtain⟨vs,f,g,j⟩:=jA xs _ h;refine⟨v::vs,f,by simp[g],λi c d=>?_⟩;cases i with
   | zero=>exact m
   | succ i=>exact j i (by simpa using c) (by simpa using d)
  exact h.elim
theorem m4 (r:Rel D n h0 w0 β e h a w) {xs:Array Operand} {vs:List Value} (d:vs.length=xs.toList.length) (f:∀ i (b:i < xs.toList.length) (c:i < vs.length),e.get xs.toList[i]=.v vs[i]):xs.map a.eval=vs.toArray:=by
 apply Array.ext
 ·simp at d ⊢;exact d.symm
 intro i b c;simp at b c;have:=f i (by simpa using b) c;simp only[Array.getElem_toList]at this;simp[r.eval this]
theorem xB (I:dg P S) (r:Rel D n h0 w0 β e h a w) (N:∀ q,o.dst=some q->q < n) {x:Bool} {f:Operand} {s:Value} {args:Array Operand} {ts:Array TypeId} (Y:o.op=.call {callee:=.value f,args:=args,argTypes:=ts})
  (Q:e.get f=.v s) (b:bp e args.toList λargs=>mZ P S x s args h K E):Sound D P n h0 w0 o a w e K E:=by
 obtain⟨j,b,A,B⟩:=jA _ _ b;have J:=m4 r A B;unfold mZ at b;split at b
 ·rename_i p first i X4;split at b
  ·rename_i W u;obtain⟨fn,T,M,X⟩:=I.fn p (Nat.le_of_ble_eq_true W) (iK.v7 u).1 (iK.v7 u).2;rw[bJ]at b;have xw:(execOp a.eval o).run P w=.ok (.enter p (first++j.toArray++i)) w:=by
    simp only[execOp,Y,resolve,r.eval Q,Deferred.ofValue,J,Sem.run_bind,Sem.run_pure,Result.andThen_ok,invoke,callFunc,run_program,T,X,Bool.false_eq_true,if_false,M]
   have L:(first.toList++j++i.toList).toArray=first++j.toArray++i:=by
    apply Array.ext';simp
   have t:∀ R,cF P p (first.toList++j++i.toList) h R->(∀ v c,R (.ret v) c->K (.v v) none c)->(∀ d c,R (.jj d) c->E d c)->Sound D P n h0 w0 o a w e K E:=by
    intro R F H G next aa V C;unfold Oper.wp;rw[xw];simp only[Oper.upon];rw[<-L];refine(F w r.mv.view).mono ?_;intro z y ⟨c,m,hm⟩;cases z with
    | returned v=>exact V _ none c β _ y (H v c hm) (r.put m o.dst N rfl)
    | panicked d=>exact C d c a y (G d c hm) (r.mv.trans m) r.tV
    | outgrown=>exact hm.elim
   split at b
   ·rw[nU]at b;unfold rI at b;exact t _ b (λv c g=>g.2) (λd c g=>g)
   rw[pY]at b;unfold tQ at b;exact t _ b (λv c g=>g) (λd c g=>g)
  exact b.elim
 exact b.elim
theorem wj (s:dg P S) (r:Rel D n h0 w0 β e h a w) (y:∀ i,o.dst=some i->i < n) {x:Operand} {args:Array Operand} {d:Array TypeId} {k c:Nat} {p:Option Addr} {j:TI} {q:TypeId} (A:o.op=.call {callee:=.builtin .len,args:=args,argTypes:=d})
  (u:args.toList=[x]) (b:(d.toList.head?).bind (λt=>S.ty.find t)=some j) (B:j.d=.sl q) (F:a.eval x=.slice p k c) (C:K (.v (.int .i64 k)) none h):Sound D P n h0 w0 o a w e K E:=by
 refine bN r y ?_ C;have v:args = #[x]:=by rw[<-u]
 cases g:d.toList with
 | nil=>rw[g]at b;cases b
 | cons t H =>
  rw[g]at b;simp only[List.head?_cons,Option.bind_some]at b;obtain⟨m,z,G,f⟩:=cQ s b w;rw[B]at f;cases m<;>simp only[j9]at f<;>try cases f
  have h0:d[0]? = some t:=by rw[<-Array.getElem?_toList,g];rfl
  simp[execOp,A,v,resolve,invoke,builtin,F,Builtin.len_,h0,z,goInt]
theorem yT {j k:IntKind} (b:sameKind j k=true):j=k:=by cases j<;>cases k<;>simp_all [sameKind]
theorem gu {k:IntKind} {x:Int} {b:Int->Prop}:Ar k x b↔b (k.wrap x):=by rw[K8];unfold Rc;exact Iff.rfl
theorem tq (b:BinOp) (t:TypeId) (x y:Operand) (j k:IntKind) (i m:Int) (w:World):(eqGuard b t x y (.int j i) (.int k m)).run P w=.ok () w:=by
 unfold eqGuard;cases b<;>rfl
theorem xC (r:Rel D n h0 w0 β e h a w) (c:∀ q,o.dst=some q->q < n) {f:BinOp} {t u:TypeId} {x y:Operand} {j k:IntKind} {i m:Int} (z:o.op=.binOp f t x y u)
  (C:e.get x=.v (.int j i)) (F:e.get y=.v (.int k m)) (p:sameKind j k=true) {s:Prop} (A:s->Sound D P n h0 w0 o a w e K E) (b:rK f j i m (λv=>K (.v v) none h) s):Sound D P n h0 w0 o a w e K E:=by
 have p:=yT p;subst p;have d:∀ v,(Go.binOp f t (.int j i) (.int j m)).run P w=.ok v w->(execOp a.eval o).run P w=.ok (.value v) w:=by
  intro v B;simp only[execOp,z,r.eval C,r.eval F,Sem.run_bind,tq,Result.andThen_ok,B,Sem.run_pure]
 cases f<;>simp only[rK]at b<;>first
  | exact A b
  | (rw[gu]at b;exact bN r c (d _ (by simp[Go.binOp,Op.intArith])) b)
  | (obtain⟨g,b⟩:=cG.1 b;rw[gu]at b;exact bN r c (d _ (by simp[Go.binOp,Op.intDiv,g])) b)
  | (obtain⟨g,b⟩:=cG.1 b;exact bN r c (d _ (by simp[Go.binOp,Op.intDiv,g])) b)
  | (
   refine bN r c (d _ ?_) b;first
    | (simp[Go.binOp,Op.intCmp];done)
    | (simp[Go.binOp,Op.intCmp];rfl)
    | (simp[Go.binOp,Op.intCmp,bne,BEq.beq];done)
    | (simp[Go.binOp,Op.intBits,sK];done))
theorem kM (d:BinOp) (t:TypeId) (x y:Operand) (b c:Bool) (w:World):(eqGuard d t x y (.bool b) (.bool c)).run P w=.ok () w:=by
 unfold eqGuard;cases d<;>rfl
theorem run_equal_bool {t:TypeId} {b c:Bool} {w:World} (d:(underlying t).run P w=.ok .bool w):(Op.equal t (.bool b) (.bool c)).run P w=.ok (b==c) w:=by
 unfold Op.equal Op.maxDepth;rw[show(10000:Nat)=9999+1 from rfl,Op.equalIn];simp only[Sem.run_bind,d,Result.andThen_ok];rfl
theorem wk (r:Rel D n h0 w0 β e h a w) (i:∀ f,o.dst=some f->f < n) (c:Raw P o e h λv h'=>K (.v v) none h'):Sound D P n h0 w0 o a w e K E:=by
 rw[ki]at c;unfold vM at c;obtain⟨d,c⟩:=c;obtain⟨v,p,h',b,m,g⟩:=c a.eval (λx j=>by obtain⟨v,d⟩:=d x j;rw[d,r.eval d]) w r.mv.view;rcases b with b|⟨b,rfl⟩
 ·exact gN r i b m (s:=.v v) rfl g
 exact tY r i b m g
theorem bY (r:Rel D n h0 w0 β e h a w) (d:∀ c,o.dst=some c->c < n) {x:Bool} (b:match x && !EM o.op with
  | true=>False
  | false=>Raw P o e h λv h'=>K (.v v) none h'):Sound D P n h0 w0 o a w e K E:=by
 split at b
 ·exact b.elim
 exact wk r d b
theorem AW (r:Rel D n h0 w0 β e h a w) (f:∀ d,o.dst=some d->d < n) {x:Bool} (b:vN P o e h x K):Sound D P n h0 w0 o a w e K E:=by
 unfold vN at b;split at b
 ·rw[mY]at b;unfold tS at b;obtain⟨c,v,g,i⟩:=b;exact bN r f (i a.eval (λx j=>by obtain⟨v,c⟩:=c x j;rw[c,r.eval c]) w) g
 exact wk r f b
theorem lY (r:Rel D n h0 w0 β e h a w) (d:∀ c,o.dst=some c->c < n) {x:Operand} (f:(execOp a.eval o).run P w=.ok (.value (a.eval x)) w) (b:match e.get x with
    | .x=>False
    | s=>K s none h):Sound D P n h0 w0 o a w e K E:=by
 have g:=r.kn x;split at b
 ·exact b.elim
 exact gG r d f g b
theorem AX (g:dg P S) {ab:Fs} {x:Bool} (r:Rel D n h0 w0 β e h a w) (c:∀ V,o.dst=some V->V < n) (b:exec P S ab x o e h K E):Sound D P n h0 w0 o a w e K E:=by
 obtain⟨dst,op,ty,pos,after,guard⟩:=o;cases op with
 | move y=>exact lY r c (x:=y) (by simp[execOp]) b
 | assign y=>exact lY r c (x:=y) (by simp[execOp]) b
 | pick m y z =>
  simp only[exec]at b;split at b
  ·rename_i t ht;have hc:=r.eval ht;cases t with
   | true=>exact lY r c (x:=y) (by simp[execOp,hc,asBool]) b
   | false=>exact lY r c (x:=z) (by simp[execOp,hc,asBool]) b
  exact b.elim
 | alloc t =>
  simp only[exec]at b;split at b
  ·rename_i Q f;exact yN g r c rfl f b
  exact b.elim
 | box t y =>
  simp only[exec]at b;split at b
  ·rename_i v Q N f;exact yM g r c rfl f N b
  exact b.elim
 | build t ps=>exact yP g r c rfl b
 | buildSlice t k ps =>
  simp only[exec]at b;split at b
  ·rename_i G f;split at b
   ·rename_i te F;split at b
    ·rename_i hle;exact rN g r c rfl f rfl F (Nat.le_of_ble_eq_true hle) b
    exact b.elim
   exact b.elim
  exact b.elim
 | load t y =>
  simp only[exec]at b;split at b
  ·rename_i Q f;split at b
   ·split at b
    ·rename_i R Y d;rw[<-d]at b;exact tZ g r c rfl f b
    exact b.elim
   exact tZ g r c rfl f b
  exact b.elim
 | store t y z =>
  simp only[exec]at b;split at b
  ·rename_i Q v f N;exact yL g r c rfl f N b
  exact b.elim
 | nilCheck y =>
  simp only[exec]at b;have B:=r.kn y;split at b
  ·rename_i t Y d;rw[d]at B;exact gG r c (v:=.pointer (some ⟨β t,Y,none⟩)) (by simp[execOp,B.1]) (s:=.l t Y) ⟨rfl,B.2⟩ b
  ·rename_i T d;exact bN r c (by simp[execOp,r.eval d]) b
  ·rename_i t v d;exact bN r c (by simp[execOp,r.eval d]) b
  ·rename_i ae aa m d;exact bN r c (by simp[execOp,r.eval d]) b
  exact bY r c b
 | binOp op t y z R =>
  simp only[exec]at b;split at b
  ·rename_i af j k I d i;split at b
   ·rename_i Nr;exact xC r c rfl d i Nr (bY r c) b
   exact bY r c b
  ·rename_i C m d i;split at b
   ·rename_i f;obtain⟨A,u,_,p⟩:=cQ g f w;cases A<;>simp only[j9]at p<;>try cases p
    split at b
    ·refine bN r c ?_ b;simp only[execOp,r.eval d,r.eval i,Sem.run_bind,kM,Result.andThen_ok];rw[show Go.binOp .eql t (.bool C) (.bool m)=(do pure (.bool (<-Op.equal t (.bool C) (.bool m))))from rfl];simp only[Sem.run_bind,run_equal_bool u,Result.andThen_ok,Sem.run_pure]
    ·refine bN r c ?_ b;simp only[execOp,r.eval d,r.eval i,Sem.run_bind,kM,Result.andThen_ok];rw[show Go.binOp .neq t (.bool C) (.bool m)=(do pure (.bool (!(<-Op.equal t (.bool C) (.bool m)))))from rfl];simp only[Sem.run_bind,run_equal_bool u,Result.andThen_ok,Sem.run_pure,bne]
    exact bY r c b
   exact bY r c b
  exact AW r c b
 | unOp op t y =>
  simp only[exec]at b;split at b
  ·rename_i C d;exact bN r c (by simp[execOp,r.eval d,Op.unary]) b
  ·rename_i k I d;rw[gu]at b;exact bN r c (by simp[execOp,r.eval d,Op.unary,Op.intArith]) b
  exact bY r c b
 | convert s t y =>
  simp only[exec]at b;split at b
  ·rename_i Q tj k I f Rj d;split at b
   ·rename_i k' N3;rw[gu]at b;refine bN r c ?_ b;obtain⟨A,u,_,p⟩:=cQ g Rj w;obtain⟨V,Rk,_,_⟩:=cQ g f w;rw[N3]at p;cases A<;>simp only[j9]at p<;>try cases p
    simp only[execOp,Go.convert,Sem.run_bind,Rk,u,Result.andThen_ok,r.eval d,Conv.intToInt,Sem.run_pure]
   exact bY r c b
  exact bY r c b
 | index t y z =>
  simp only[exec]at b;split at b
  ·rename_i s k j d i;split at b
   ·rename_i f;obtain⟨hb,b⟩:=cG.1 b;refine bN r c ?_ b;obtain⟨A,u,_,p⟩:=cQ g f w;cases A<;>simp only[j9]at p<;>try cases p
    have H:j.toNat < s.size:=by omega
    have hg:s[j.toNat]? = some (s[j.toNat]'H):=by simp[H]
    have hl:s.data.toList.getD j.toNat 0=s[j.toNat]'H:=by
     have:j.toNat < s.data.toList.length:=by simpa using H
     have W:s.data[j.toNat]? = some (s.data[j.toNat]'H):=Array.getElem?_eq_getElem H;simp[List.getD_eq_getElem?_getD,W];rfl
    simp only[execOp,Instr.index,r.eval d,r.eval i,asIntOf,Sem.run_bind,Sem.run_pure,Result.andThen_ok,u,if_pos hb.1,hg,hl]
   exact bY r c b
  exact bY r c b
 | makeInterface t y =>
  simp only[exec]at b;split at b
  ·rename_i Q v f d;split at b
   ·exact b.elim
   rename_i pV;refine bN r c ?_ b;obtain⟨A,u,_,p⟩:=cQ g f w;cases A<;>first
    | (exfalso;exact pV (by rw[<-p];rfl))
    | simp[execOp,r.eval d,Instr.makeInterface,u]
  exact b.elim
 | makeFunc aa fs cs =>
  simp only[exec]at b;obtain⟨vs,b,h1,W⟩:=jA _ _ b;obtain⟨us,b,h3,h4⟩:=jA _ _ b;exact bN r c (by simp only[execOp,m4 r h1 W,m4 r h3 h4,Instr.makeFunc];rfl) b
 | slice t y lo hi mx =>
  simp only[exec]at b;split at b
  ·rename_i G f;split at b
   ·rename_i te T I cap F d;exact yQ g r c rfl f rfl F d b
   exact bY r c b
  exact bY r c b
 | fieldAddr t y j =>
  simp only[exec]at b;split at b
  ·rename_i fs f;split at b
   ·rename_i k R L;exact th g r c rfl f rfl L b
   exact b.elim
  exact b.elim
 | field t y j =>
  simp only[exec]at b;split at b
  ·rename_i fs f;split at b
   ·rename_i k R L;split at b
    ·rename_i cs tu d X;split at b
     ·rename_i vs AU;exact yR g r c rfl f rfl L d X b AU
     exact b.elim
    exact b.elim
   exact b.elim
  exact b.elim
 | indexAddr t y z =>
  simp only[exec]at b;split at b
  ·rename_i k j i;exact tn g r c rfl i b
  exact b.elim
 | extract y j =>
  simp only[exec]at b;split at b
  ·rename_i vs d;split at b
   ·rename_i v N;exact vP r c rfl d N b
   exact b.elim
  exact b.elim
 | makeSlice t y z =>
  simp only[exec]at b;split at b
  ·rename_i G f;split at b
   ·rename_i te k m F d i;exact tg g r c rfl f rfl F d i b
   exact b.elim
  exact b.elim
 | panic y =>
  simp only[exec]at b;split at b
  ·rename_i t v d;intro next ad hk hE;unfold Oper.wp;have:(execOp a.eval ⟨dst,.panic y,ty,pos,after,guard⟩).run P w=.halt (.panic (.iface t v)) w:=by
    simp[execOp,r.eval d,Instr.panic]
   rw[this];exact hE _ h a w b r.mv r.tV
  exact b.elim
 | call m =>
  obtain⟨callee,args,ts⟩:=m;cases callee with
  | value aa =>
   simp only[exec]at b;split at b
   ·rename_i fv L;exact xB g r c rfl L b
   exact b.elim
  | invoke y I=>exact bY r c b
  | builtin C =>
   cases C with
   | len =>
    simp only[exec]at b;split at b
    ·rename_i y q;have B:=r.kn y;split at b
     ·rename_i T k m d;rw[d]at B;split at b
      ·rename_i G f;exact wj g r c rfl q f rfl B b
      exact b.elim
     ·rename_i R k d;rw[d]at B;split at b
      ·rename_i G f;exact wj g r c rfl q f rfl B.1 b
      exact b.elim
     exact bY r c b
    exact b.elim
   | max =>
    simp only[exec]at b;split at b
    ·rename_i y z q;split at b
     ·rename_i k I k' m' d i;split at b
      ·have J:args = #[y,z]:=by rw[<-q]
       refine bN r c ?_ b;simp only[execOp,resolve,Sem.run_bind,Sem.run_pure,Result.andThen_ok,invoke,builtin,Builtin.max_,J];simp[r.eval d,r.eval i,Builtin.max2,mx]
      exact bY r c b
     exact bY r c b
    exact bY r c b
   | min =>
    simp only[exec]at b;split at b
    ·rename_i y z q;split at b
     ·rename_i k I k' m' d i;split at b
      ·have J:args = #[y,z]:=by rw[<-q]
       refine bN r c ?_ b;simp only[execOp,resolve,Sem.run_bind,Sem.run_pure,Result.andThen_ok,invoke,builtin,Builtin.min_,J];simp[r.eval d,r.eval i,Builtin.min2,mn]
      exact bY r c b
     exact bY r c b
    exact bY r c b
   | cap =>
    simp only[exec]at b;split at b
    ·rename_i y q;split at b
     ·rename_i T k m d;split at b
      ·rename_i G f;have J:args = #[y]:=by rw[<-q]
       refine bN r c ?_ b;cases M:ts.toList with
       | nil=>rw[M]at f;cases f
       | cons t ts' =>
        rw[M]at f;simp only[List.head?_cons,Option.bind_some]at f;obtain⟨A,u,Dw,N4⟩:=cQ g f w;cases A<;>simp only[j9]at N4<;>try cases N4
        have h0:ts[0]? = some t:=by rw[<-Array.getElem?_toList,M];rfl
        simp[execOp,J,resolve,invoke,builtin,r.eval d,Builtin.cap_,h0,u,goInt]
      exact b.elim
     exact bY r c b
    exact b.elim
   | append =>
    simp only[exec]at b;split at b
    ·rename_i y z t R q M;split at b
     ·rename_i G Wc f X;split at b
      ·rename_i te F;split at b
       ·rename_i T k cap d;exact xA g r c rfl q M f rfl X rfl F d b
       exact b.elim
      exact b.elim
     exact bY r c b
    exact b.elim
   | _=>exact bY r c b
 | _=>exact bY r c b
set_option linter.constructorNameAsVariable false
set_option linter.unusedVariables false
variable {D:List Deferred} {P:Program} {S:iK} {n:Nat} {h0:Heap} {w0:World} {β:Nat->Nat} {e:Env} {h:Heap} {a:Act} {w:World}
theorem rO:∀(l:List Oper) (i:Nat),nth l i=l[i]?
 | [],i=>by cases i<;>rfl
 | _::_,0=>rfl
 | _::r,i+1=>by simp[nth,rO r i]
theorem wm {b:Bool} {t f:Prop} (c:er b t f):(b=true/\t)\/(b=false/\f):=by
 cases b
 ·exact .inr ⟨rfl,c⟩
 exact .inl ⟨rfl,c⟩
theorem Rel.known (r:Rel D n h0 w0 β e h a w) {d:Nat} {b:Bool} (f:e.s d=.v (.bool b)):Rel D n h0 w0 β (e.put (some d) (.v (.bool b)) none) h a w where
 size:=r.size
 tV:=r.tV
 slot t:=by
  simp only[Env.put];by_cases c:t=d
  ·simp only[c,if_true];have:=r.slot d;rw[f]at this;exact this
  simp only[c,if_false];have:=r.slot t;revert this;cases e.s t<;>exact id
 box:=r.box
 inj:=r.inj
 mv:=r.mv
theorem AY (r:Rel D n h0 w0 β e h a w) {g:Array Oper} {j d:Nat} {o:Oper} (m:g[j]? = some o) (i:o.dst=some d) {b:Bool} (p:e.s d=.v (.bool b)):yielded g a.tmps j=some b:=by
 have:=r.slot d;rw[p]at this;have c:a.tmps.getD d undef=.bool b:=this;have:a.tmps[d]? = some (.bool b):=by
  rw[Array.getD_eq_getD_getElem?]at c;cases f:a.tmps[d]? with
  | none=>rw[f]at c;simp[undef]at c
  | some v=>rw[f]at c;simp at c;rw[c]
 simp[yielded,m,i,this]
theorem xD (r:Rel D n h0 w0 β e h a w) {i:Array Oper} {j d:Nat} {o:Oper} (g:i[j]? = some o) (f:o.dst=some d) {vs:Array Value} (m:e.s d=.v (.tuple vs)):yielded i a.tmps j=none:=by
 have:=r.slot d;rw[m]at this;have c:a.tmps.getD d undef=.tuple vs:=this;cases b:a.tmps[d]? with
 | none=>simp[yielded,g,f,b]
 | some v =>
  rw[Array.getD_eq_getD_getElem?,b]at c;simp at c;simp[yielded,g,f,b,c]
theorem m5 (T:dg P S) {F:Fs} {x:Bool} {g:Array Oper} {i:Nat} {o:Oper} (J:g[i]? = some o) {K:Env->Heap->Prop} {E:List PanicEntry->Heap->Prop} (r:Rel D n h0 w0 β e h a w) (I:∀ H,o.dst=some H->H < n)
  (b:p9 P S F x g.toList o e h K E) {next:Act->World->Prop} {Q:Exit->Act->World->Prop}
  (L:∀ e' h' G p w',K e' h'->Rel D n h0 w0 G e' h' p w'->next p w')
  (N:∀ c h' p w',E c h'->cK h0 w0 h' w'->p.defers=D->Q (.panic c) p w'):wpOp P g Q i next a w:=by
 have Y:∀ d,Rel D n h0 w0 β d h a w->exec P S F x o d h (λz v h'=>K (d.put o.dst z v) h') E->o.wp P a w next Q:=by
  intro d j t;exact AX T j I t next Q (λz v h' G p w' A R=>L _ _ G _ _ A R) N
 have skip:∀ d,Rel D n h0 w0 β d h a w->K (d.put o.dst (.v undef) none) h->next (a.put o.dst undef) w:=by
  intro d j A;exact L _ _ β _ _ A (j.put (cK.refl j.mv.view) o.dst I rfl)
 have C:∀ d,Region.wanted o (yielded g a.tmps)=true->Rel D n h0 w0 β d h a w->exec P S F x o d h (λz v h'=>K (d.put o.dst z v) h') E->wpOp P g Q i next a w:=by
  intro d B j t;unfold wpOp;simp only[J,B,if_true];exact .inl (Y d j t)
 have u:∀ d,Region.wanted o (yielded g a.tmps)=false->Rel D n h0 w0 β d h a w->K (d.put o.dst (.v undef) none) h->wpOp P g Q i next a w:=by
  intro d B j t;unfold wpOp;simp only[J,B,Bool.false_eq_true,if_false];exact skip d j t
 unfold p9 guardOf at b;cases f:o.guard with
 | none =>
  simp only[f]at b;exact C e (by simp[Region.wanted,f]) r b
 | some W =>
  obtain⟨V,M⟩:=W;simp only[f,rO,Array.getElem?_toList]at b;cases q:g[V]? with
  | none =>
   simp only[q]at b;exact u e (by simp[Region.wanted,f,yielded,q]) r b
  | some X =>
   simp only[q]at b;cases s:X.dst with
   | none =>
    simp only[s]at b;exact u e (by simp[Region.wanted,f,yielded,q,s]) r b
   | some ab =>
    simp only[s]at b;split at b
    ·rename_i aa m;have y:=AY r q s m;rcases wm b with ⟨rfl,b⟩|⟨rfl,b⟩
     ·cases M with
      | true=>exact C _ (by simp[Region.wanted,f,y]) (r.known m) b
      | false=>exact u _ (by simp[Region.wanted,f,y]) (r.known m) b
     cases M with
     | true=>exact u _ (by simp[Region.wanted,f,y]) (r.known m) b
     | false=>exact C _ (by simp[Region.wanted,f,y]) (r.known m) b
    ·rename_i vs m;exact u e (by simp[Region.wanted,f,xD r q s m]) r b
    exact b.elim
theorem sO (m:dg P S) {F:Fs} {d:Array Oper} (p:∀ o∈d.toList,∀ g,o.dst=some g->g < n) {K:Env->Heap->Prop} {E:List PanicEntry->Heap->Prop} {Q:Exit->Act->World->Prop}
  (q:∀ e' h' f b w',K e' h'->Rel D n h0 w0 f e' h' b w'->Q .normal b w')
  (i:∀ c h' b w',E c h'->cK h0 w0 h' w'->b.defers=D->Q (.panic c) b w') :
  ∀(l:List Oper) (k:Nat) (e:Env) (h:Heap) (β:Nat->Nat) (a:Act) (w:World),(∀ j,l[j]? = d[k+j]?)->Rel D n h0 w0 β e h a w ->
   yJ P S F d.toList K E l e h->wpOps P d Q (List.range' k l.length) a w
 | [],k,e,h,β,a,w,_,r,hx=>q _ _ β _ _ hx r
 | o::l,k,e,h,β,a,w,hl,r,hx=>by
  have h0:d[k]? = some o:=by simpa using (hl 0).symm
  rw[List.length_cons,List.range'_succ,wpOps_cons];refine m5 m h0 r (p o (by rw[<-Array.getElem?_toList]at h0;exact List.mem_of_getElem? h0)) hx (λe' h' f b w' s t=>?_) i;exact sO m p q i l (k+1) e' h' f b w' (λj=>by have:=hl (j+1);simpa [Nat.add_assoc,Nat.add_comm 1 j]using this) t s
def Code.iM (n:Nat):Code->Bool
 | .region _ f _=>f.toList.all λo=>match o.dst with|some d=>Nat.blt d n|none=>true
 | .seq a b=>Code.iM n a&&Code.iM n b
 | .cond _ a b=>Code.iM n a&&Code.iM n b
 | .block _ c=>Code.iM n c
 | .loop c=>Code.iM n c
 | .scope c=>Code.iM n c
 | _=>true
theorem o9 {n:Nat} {c:Array Oper} (i:(c.toList.all λo=>match o.dst with|some d=>Nat.blt d n|none=>true)=true):∀ o∈c.toList,∀ b,o.dst=some b->b < n:=by
 intro o g d f;have:=List.all_eq_true.1 i o g;simp only[f]at this;exact Nat.le_of_ble_eq_true this
def Lt (P:Program) (S:iK) (F:Fs) (n:Nat) (id:Nat) (f:Array Oper):Prop :=
 ∀(D:List Deferred) (K:Env->Heap->Prop) (E:List PanicEntry->Heap->Prop) (Q:Exit->Act->World->Prop) (h0:Heap) (w0:World) (β:Nat->Nat) (e:Env) (h:Heap) (a:Act) (w:World),
  drawn P S F id f.toList K E e h->Rel D n h0 w0 β e h a w->(∀ i c j b d,K i c->Rel D n h0 w0 j i c b d->Q .normal b d) ->
  (∀ g c b d,E g c->cK h0 w0 c d->b.defers=D->Q (.panic g) b d)->wpAny P .any f Q f.size (Array.replicate f.size false) a w
def Code.iF (P:Program) (S:iK) (F:Fs) (n:Nat):Code->Prop
 | .region id d true=>Lt P S F n id d
 | .seq a b=>Code.iF P S F n a/\Code.iF P S F n b
 | .cond _ a b=>Code.iF P S F n a/\Code.iF P S F n b
 | .block _ c=>Code.iF P S F n c
 | .loop c=>Code.iF P S F n c
 | .scope c=>Code.iF P S F n c
 | _=>True
def N5 (D:List Deferred) (n:Nat) (h0:Heap) (w0:World) (K:Ex->Env->Heap->Prop):Exit->Act->World->Prop
 | .normal,a,w=>∃ β e h,K .normal e h/\Rel D n h0 w0 β e h a w
 | .exit i,a,w=>∃ β e h,K (.exit i) e h/\Rel D n h0 w0 β e h a w
 | .ret,a,w=>∃ β e h,K .ret e h/\Rel D n h0 w0 β e h a w
 | .panic c,a,w=>∃ e h,K (.jj c) e h/\cK h0 w0 h w/\a.defers=D
 | .goto _,_,_=>False
 | .outgrown,_,_=>False
theorem ug (f:Nat->Slot) (t:Nat):∀ b:List Nat,rJ b (b.map f) t=f t\/rJ b (b.map f) t=.x
 | []=>.inr rfl
 | i::b=>by
  simp only[List.map_cons,rJ];split
  ·rename_i c;subst c;exact .inl rfl
  exact ug f t b
theorem nZ (f:Nat->Option (List Value)) (t:Nat):∀ b:List Nat,Cu b (b.map f) t=if b.contains t then f t else none
 | []=>rfl
 | i::b=>by
  simp only[List.map_cons,Cu];by_cases c:t=i
  ·subst c;simp
  rw[if_neg c,nZ f t b];simp[c]
theorem Rel.narrow (r:Rel D n h0 w0 β e h a w) (c b:List Nat):Rel D n h0 w0 β (tT c b (c.map e.s) (b.map e.b)) h a w where
 size:=r.size
 tV:=r.tV
 slot t:=by
  have d:∀ u,(tT c b (c.map e.s) (b.map e.b)).b u=if b.contains u then e.b u else none:=λu=>nZ e.b u b
  show jH β _ ((rJ c (c.map e.s) t).clean b) _;have f:=r.slot t;rcases ug e.s t c with i|i
  ·rw[i];revert f
   cases e.s t with
   | v x=>exact id
   | x=>exact id
   | l u j =>
    intro f;simp only[Slot.clean];split
    ·rename_i g;exact⟨f.1,by rw[d,if_pos g];exact f.2⟩
    trivial
   | r u k =>
    intro f;simp only[Slot.clean];split
    ·rename_i g;exact⟨f.1,by rw[d,if_pos g];exact f.2⟩
    trivial
  rw[i];trivial
 box t cs d:=by
  have:(tT c b (c.map e.s) (b.map e.b)).b t=if b.contains t then e.b t else none:=nZ e.b t b
  rw[this]at d;split at d
  ·exact r.box t cs d
  cases d
 inj t u ht hu Np:=by
  have d:∀ u,(tT c b (c.map e.s) (b.map e.b)).b u=if b.contains u then e.b u else none:=λu=>nZ e.b u b
  rw[d]at ht hu;refine r.inj t u ?_ ?_ Np
  ·split at ht
   ·exact ht
   cases ht
  split at hu
  ·exact hu
  cases hu
 mv:=r.mv
theorem ET {c:Code} {Q:Exit->Act->World->Prop} (I:Nat->Act->World->Prop) (F:Nat) (B:I F a w)
  (H:∀ k a w,I k a w->c.wp P (Exit.then (λf w'=>∃ m,m < k/\I m f w') Q) a w):(Code.loop c).wp P Q a w:=by
 intro p k q;have G:∀ j a w,I j a w->∃ e f w',Q e f w'/\Arrives P (lone (p.at a (.code c::.inLoop c::k)) q w) p k q e f w':=by
  intro j;induction j using Nat.strongRecOn with
  | _ j C =>
   intro a w u;obtain⟨e,g,i,d,b⟩:=H j a w u p (.inLoop c::k) q;cases e with
   | normal =>
    obtain⟨m,z,v⟩:=d;obtain⟨t,s,J,A,y⟩:=C m z g i v;exact⟨t,s,J,A,.of_steps (Steps.trans b (.one step_inLoop)) y⟩
   | exit id=>exact⟨_,g,i,d,.pass (x:=.inLoop c) rfl (λ_ _=>.inl Z) b⟩
   | goto l=>exact⟨_,g,i,d,.pass (x:=.inLoop c) rfl (λ_ _=>.inl Z) b⟩
   | ret=>exact⟨_,g,i,d,.pass (x:=.inLoop c) rfl (λ_ _=>.inl Z) b⟩
   | panic L=>exact⟨_,g,i,d,.pass (x:=.inLoop c) rfl (λ_ _=>.inl Z) b⟩
   | outgrown=>exact⟨_,g,i,d,.pass (x:=.inLoop c) rfl (λ_ _=>.inl Z) b⟩
 obtain⟨e,f,w',d,b⟩:=G _ a w B;exact⟨e,f,w',d,.of_steps (.one step_loop) b⟩
theorem n7 (I:dg P S) (F:Fs):∀(c:Code) (K:Ex->Env->Heap->Prop) (β:Nat->Nat) (e:Env) (h:Heap) (a:Act) (w:World),
  Code.iM n c=true->Code.iF P S F n c->den P S F c K e h->Rel D n h0 w0 β e h a w->c.wp P (N5 D n h0 w0 K) a w:=by
 intro c;induction c with
 | skip=>intro K β e h a w _ _ b r;exact wp_skip ⟨β,e,h,b,r⟩
 | label l=>intro K β e h a w _ _ b r;exact wp_label ⟨β,e,h,b,r⟩
 | exit v=>intro K β e h a w _ _ b r;exact wp_exit ⟨β,e,h,b,r⟩
 | ret=>intro K β e h a w _ _ b r;exact wp_ret ⟨β,e,h,b,r⟩
 | region id ops M =>
  intro K β e h a w f i b r;cases M with
  | false =>
   simp only[den]at b;refine wp_region ?_;have:=sO (Q:=N5 D n h0 w0 K) I (o9 f) (λj g q s t m p=>⟨q,j,g,m,p⟩) (λc g s t A B z=>⟨e,g,A,B,z⟩) ops.toList 0 e h β a w (λaf=>Z) r b;rw[List.range_eq_range'];simpa using this
  | true =>
   simp only[den]at b;refine wp_region_any I.mix ?_;exact i _ _ _ _ h0 w0 β e h a _ b ⟨r.size,r.tV,r.slot,r.box,r.inj,⟨r.mv.view,r.mv.aJ,r.mv.tG,r.mv.size,r.mv.fz,r.mv.out⟩⟩ (λj g q s t m p=>⟨q,j,g,m,p⟩) (λc g s t A B z=>⟨e,g,A,B,z⟩)
 | seq c1 c2 X5 X6 =>
  intro K β e h a w f i b r;simp only[Code.iM,Bool.and_eq_true]at f;refine wp_seq (wp_mono (X5 _ β e h a w f.1 i.1 b r) ?_);intro u s t d;cases u with
  | normal=>obtain⟨q,j,g,m,p⟩:=d;exact X6 K q j g s t f.2 i.2 m p
  | exit v=>exact d
  | ret=>exact d
  | panic G=>exact d
  | goto l=>exact d
  | outgrown=>exact d
 | cond c ah ab X7 X8 =>
  intro K β e h a w f i b r;simp only[Code.iM,Bool.and_eq_true]at f;simp only[den]at b;split at b
  ·rename_i ag Y;refine wp_cond (r.eval Y) ?_;rcases wm b with ⟨rfl,b⟩|⟨rfl,b⟩
   ·exact X7 K β e h a w f.1 i.1 b r
   exact X8 K β e h a w f.2 i.2 b r
  exact b.elim
 | block id c x =>
  intro K β e h a w f i b r;refine wp_block (wp_mono (x _ β e h a w f i b r) ?_);intro u s t d;cases u with
  | normal=>exact d
  | exit v =>
   obtain⟨q,j,g,m,p⟩:=d;simp only[Exit.inBlock];by_cases y:v=id
   ·rw[if_pos y];have:Nat.beq v id=true:=by rw[y];exact Nat.beq_refl id
    simp only[this]at m;exact⟨q,j,g,m,p⟩
   rw[if_neg y];have:Nat.beq v id=false:=by
    cases T:Nat.beq v id with
    | true=>exact absurd (Nat.eq_of_beq_eq_true T) y
    | false=>rfl
   simp only[this]at m;exact⟨q,j,g,m,p⟩
  | ret=>exact d
  | panic G=>exact d
  | goto l=>exact d
  | outgrown=>exact d
 | loop c x =>
  intro K β e h a w f i b r;simp only[den]at b;rw[EK]at b;unfold Qo at b;obtain⟨J,C,Inv,⟨k,V⟩,X⟩:=b;refine ET (λk a w=>∃ β e h,Inv k (J.map e.s) (C.map e.b) h/\Rel D n h0 w0 β e h a w) k ⟨β,e,h,V,r⟩ ?_;rintro k1 L w1 ⟨Rm,e1,H,N,r1⟩;refine wp_mono (x _ Rm _ H L w1 f i (X k1 _ _ H N) (r1.narrow J C)) ?_;intro u s t d;cases u with
  | normal=>obtain⟨q,j,g,⟨aa,W,R⟩,p⟩:=d;exact⟨aa,W,q,j,g,R,p⟩
  | exit v=>exact d
  | ret=>exact d
  | panic G=>exact d
  | goto l=>exact d
  | outgrown=>exact d
 | scope c x =>
  intro K β e h a w f i b r;refine wp_scope_straight (wp_mono (x K β e h a w f i b r) ?_);intro u s t d;cases u with
  | goto l=>exact d.elim
  | _=>exact d
 | goto l=>intro K β e h a w _ _ b r;exact b.elim
 | refuse ab=>intro K β e h a w _ _ b r;exact b.elim
 | rangeFunc ae ps as ad _ _=>intro K β e h a w _ _ b r;exact b.elim
def iN (args:List Value):Env:=⟨λt=>match args[t]? with|some v=>.v v|none=>.v undef,λ_=>none⟩
def fy (S:iK) (e:Env) (h:Heap):List ResultVar->(List Value->Prop)->Prop
 | [],K=>K []
 | .tmp t::r,K=>match e.s t with
  | .v v=>fy S e h r λb=>K (v::b)
  | _=>False
 | .cell t ty::r,K=>match S.ty.find ty with
  | some c=>load c (e.s t) e h λs _ _=>match s with
   | .v v=>fy S e h r λb=>K (v::b)
   | _=>False
  | none=>False
def iZ (K:Value->Prop):List Value->Prop
 | [v]=>K v
 | vs=>K (.tuple ⟨vs⟩)
def Fin (S:iK) (res:List ResultVar) (R:Out->Heap->Prop):Ex->Env->Heap->Prop
 | .normal,e,h=>fy S e h res λb=>iZ (λv=>R (.ret v) h) b
 | .ret,e,h=>fy S e h res λb=>iZ (λv=>R (.ret v) h) b
 | .exit _,_,_=>False
 | .jj c,_,h=>R (.jj c) h
theorem rP {fn:Func} {args:List Value} (j:args.length<=fn.ntmps) (i:∀ b o,h b=some o->w.heap[b]? = some o) :
  Rel [] fn.ntmps h w (λ_=>0) (iN args) h {tmps:=args.toArray++Array.replicate (fn.ntmps-args.toArray.size) undef,defers:=[]} w where
 size:=by simp;omega
 tV:=rfl
 slot t:=by
  simp only[iN];cases c:args[t]? with
  | some v =>
   obtain⟨g,d⟩:=List.getElem?_eq_some_iff.1 c;show _=v;simp[Array.getD_eq_getD_getElem?,Array.getElem?_append,g,d]
  | none =>
   have f:args.length<=t:=by simpa using c
   show _=undef;rw[Array.getD_eq_getD_getElem?,Array.getElem?_append_right (by simpa using f),Array.getElem?_replicate];split<;>rfl
 box t cs hb:=by simp[iN]at hb
 inj t u c:=by simp[iN]at c
 mv:=cK.refl i
theorem kE (g:dg P S) (r:Rel D n h0 w0 β e h a w):∀(res:List ResultVar) (K:List Value->Prop),fy S e h res K ->
  ∃ vs,K vs/\(res.mapM (m:=Sem) fun
   | .tmp t=>pure (a.tmps.getD t undef)
   | .cell x t=>do loadVar t (<-asAddr (a.tmps.getD x undef))).run P w=.ok vs w
 | [],K,hx=>⟨[],hx,rfl⟩
 | .tmp t::res,K,hx=>by
  simp only[fy]at hx;split at hx
  ·rename_i v u;obtain⟨vs,d,f⟩:=kE g r res _ hx;refine⟨v::vs,d,?_⟩;have i:=r.slot t;rw[u]at i;rw[List.mapM_cons];simp only[Sem.run_bind,Sem.run_pure,Result.andThen_ok,f];rw[show a.tmps.getD t undef=v from i]
  exact hx.elim
 | .cell t ty::res,K,hx=>by
  simp only[fy]at hx;split at hx
  ·rename_i y s;obtain⟨b,v,c,j,p⟩:=v9 (x:=.tmp t) g r s hx;obtain⟨vs,d,f⟩:=kE g r res _ p;refine⟨v::vs,d,?_⟩;have c:a.tmps.getD t undef=.pointer (some b):=c;rw[List.mapM_cons];have q:(asAddr (.pointer (some b))).run P w=.ok b w:=rfl;simp only[Sem.run_bind,c,q,Sem.run_pure,Result.andThen_ok,j,f]
  exact hx.elim
theorem kF (f:dg P S) (r:Rel D n h0 w0 β e h a w) {fn:Func} {R:Out->Heap->Prop} (i:fy S e h fn.results.toList λvs=>iZ (λv=>R (.ret v) h) vs) :
  ∃ v,(results fn a.tmps).run P w=.ok v w/\R (.ret v) h:=by
 obtain⟨vs,b,d⟩:=kE f r _ _ i;have g:(results fn a.tmps).run P w=.ok (if h:vs.toArray.size=1 then vs.toArray[0]else .tuple vs.toArray) w:=by
  unfold results;rw[Array.mapM_eq_mapM_toList];simp only[Sem.run_bind,Sem.run_map,Sem.run_pure];exact(congrArg (λr:Result (List Value)=>(r.andThen λa c=>Result.ok a.toArray c).andThen λa c=>Result.ok (if h:a.size=1 then a[0]else Value.tuple a) c) d).trans rfl
 refine⟨_,g,?_⟩;match vs,b with
 | [],b=>simpa [iZ]using b
 | [v],b=>simpa [iZ]using b
 | u::v::r,b=>simpa [iZ]using b
theorem xE (p:dg P S) (F:Fs) {f:FuncId} {fn:Func} {c:Code} {args:List Value} {R:Out->Heap->Prop} (y:P.funcs[f]? = some fn) (u:fn.body=some c) (z:args.length<=fn.ntmps)
  (x:Code.iM fn.ntmps c=true) (A:Code.iF P S F fn.ntmps c) (C:den P S F c (Fin S fn.results.toList R) (iN args) h):cF P f args h R:=by
 intro w B;refine calls_of_wp y u (wp_mono (n7 p F c _ _ _ _ _ _ x A C (rP z B)) ?_);intro q G J i;cases q with
 | normal=>obtain⟨β,e,g,d,b⟩:=i;obtain⟨v,j,m⟩:=kF p b d;exact⟨b.tV,v,j,g,b.mv,m⟩
 | ret=>obtain⟨β,e,g,d,b⟩:=i;obtain⟨v,j,m⟩:=kF p b d;exact⟨b.tV,v,j,g,b.mv,m⟩
 | exit I=>obtain⟨β,e,g,d,b⟩:=i;exact d.elim
 | panic H=>obtain⟨e,g,d,t,s⟩:=i;exact⟨s,g,t,d⟩
 | goto l=>exact i.elim
 | outgrown=>exact i.elim
set_option linter.unusedSimpArgs false
variable {D:List Deferred} {P:Program} {S:iK} {F:Fs} {o:Oper} {e:Env} {h:Heap} {K:Slot->Bx->Heap->Prop} {E:List PanicEntry->Heap->Prop}
theorem Heap.le_refl (h:Heap):h.le h:=λ_ _ x=>x
theorem Heap.le_trans {a b c:Heap} (x:a.le b) (y:b.le c):a.le c:=λk o d=>y k o (x k o d)
theorem Heap.xF {b:Nat} (o:Obj) (d:h b=none):h.le (h.set b o):=by
 intro g x c;simp only[Heap.set];split
 ·rename_i f;subst f;rw[d]at c;cases c
 exact c
theorem iO {d:TI} {v:Value} {f:List Value->Prop} (b:jr d v f):∃ vs,f vs/\∀ Kd:List Value->Prop,Kd vs->jr d v Kd:=by
 unfold jr at b ⊢;cases g:d.agg with
 | true =>
  simp only[g]at b;cases v with
  | agg j =>
   simp only[bJ]at b ⊢;split at b
   ·rename_i i;exact⟨_,b,λKd c=>by (try simp only[i]);exact c⟩
   exact b.elim
  | _=>exact b.elim
 | false =>
  simp only[g]at b;simp only;split at b
  ·exact⟨_,b,λKd c=>c⟩
  exact b.elim
theorem kN {g:Nat->Option TI}:∀(c:List (Nat × Operand)) (Kp:List (Nat × List Value)->Prop),parts e g c Kp ->
  ∃ f,Kp f/\∀ Kd:List (Nat × List Value)->Prop,Kd f->parts e g c Kd
 | [],Kp,b=>⟨[],b,λ_ d=>d⟩
 | (i,x)::c,Kp,b=>by
  simp only[parts]at b;split at b
  ·rename_i v s q p;obtain⟨t,b,j⟩:=iO b;obtain⟨f,b,m⟩:=kN c _ b;refine⟨_,b,λKd d=>?_⟩;simp only[parts,q,p];exact j _ (m _ d)
  exact b.elim
theorem kO:∀(xs:List Operand) (c:List Value->Prop),bp e xs c->∃ vs,c vs/\∀ Kd:List Value->Prop,Kd vs->bp e xs Kd
 | [],c,b=>⟨[],b,λ_ d=>d⟩
 | x::xs,c,b=>by
  simp only[bp]at b;split at b
  ·rename_i v g;obtain⟨vs,b,f⟩:=kO xs _ b;exact⟨_,b,λKd d=>by simp only[bp,g];exact f _ d⟩
  exact b.elim
theorem Ih {a:Option Addr} {cap l g:Nat} {f:Option Addr->Prop} (c:Sub a cap l g f):∃ oa,f oa/\∀ Kd:Option Addr->Prop,Kd oa->Sub a cap l g Kd:=by
 rw[xm]at c ⊢;unfold EL at c ⊢;by_cases b:cap=l
 ·exact⟨a,c a (λp=>absurd b p) (λ_=>rfl),λKd d oa _ j=>by rw[j b];exact d⟩
 exact⟨_,c _ (λ_=>rfl) (λm=>absurd m b),λKd d oa i _=>by rw[i b];exact d⟩
theorem sP {g:Nat} {a:Option Addr} {cap H:Nat} {f:Option Slot} {d:Value->Prop} (b:lT g a cap f H d):∃ v,d v/\∀ Kd:Value->Prop,Kd v->lT g a cap f H Kd:=by
 unfold lT at b ⊢;split at b
 ·exact⟨_,b,λ_ c=>c⟩
 ·obtain⟨i,b⟩:=cG.1 b;obtain⟨m,b,j⟩:=Ih b;exact⟨_,b,λKd c=>cG.2 ⟨i,j _ c⟩⟩
 exact b.elim
theorem sQ {g:Nat} {a:Option Addr} {n cap:Nat} {f d:Option Slot} {c:Value->Prop} (b:lU g a n cap f d c):∃ v,c v/\∀ Kd:Value->Prop,Kd v->lU g a n cap f d Kd:=by
 unfold lU at b ⊢;split at b
 ·exact sP b
 ·obtain⟨i,b⟩:=cG.1 b;obtain⟨v,b,j⟩:=sP b;exact⟨v,b,λKd m=>cG.2 ⟨i,j Kd m⟩⟩
 exact b.elim
theorem Ii {t:TypeId} {d:List (Nat × Operand)} {c:Value->Prop} (b:Lb S t d e c):∃ v,c v/\∀ Kd:Value->Prop,Kd v->Lb S t d e Kd:=by
 unfold Lb at b ⊢;split at b
 ·rename_i u m;split at b
  ·exact b.elim
  rename_i q x j;obtain⟨s,b,f⟩:=kN _ _ b;split at b
  ·rename_i p g;rw[bJ]at b;refine⟨_,b,λKd i=>?_⟩;try simp only[m,j]
   refine f _ ?_;simp only[g,bJ];exact i
  exact b.elim
 exact b.elim
theorem uh {f:BinOp} {k:IntKind} {m n:Int} {g:Value->Prop} (b:rK f k m n g False):∃ v,g v/\∀ Kd:Value->Prop,Kd v->rK f k m n Kd False:=by
 cases f<;>simp only[rK]at b ⊢<;>first
  | exact b.elim
  | exact⟨_,b,λ_ c=>c⟩
  | exact⟨_,gu.1 b,λ_ c=>gu.2 c⟩
  | (obtain⟨d,b⟩:=cG.1 b;exact⟨_,gu.1 b,λ_ c=>cG.2 ⟨d,gu.2 c⟩⟩)
  | (obtain⟨d,b⟩:=cG.1 b;exact⟨_,b,λ_ c=>cG.2 ⟨d,c⟩⟩)
inductive dH where
 | P|L|R|X|A|W
def cls (F:Fs) (o:Oper):dH :=
 match o.op with
 | .alloc _ | .box .. | .buildSlice ..=>match EG F.L o.dst with
  | true=>.P
  | false=>.X
 | .load ..=>match EG F.LL o.dst with
  | true=>.L
  | false=>.R
 | .makeSlice ..=>.X
 | .call {callee:=.value f,.. }=>match La F f with
  | true=>.A
  | false=>.X
 | .call {callee:=.builtin .append,.. }=>.A
 | op=>match EM op with
  | true=>.W
  | false=>.P
theorem yU {d:Option Nat} (b:EG F.L d=true):∃ c,isLocal F d=some c/\d=some c:=by
 cases d with
 | none=>cases b
 | some d=>simp only[EG]at b;exact⟨d,by simp[isLocal,b],rfl⟩
theorem uj {t:TypeId} {d:Option Nat} {cs:List Value} (m:EG F.L d=true) (b:newVar F t d cs e h K) :
  ∃ s f,K s f h/\∀(h':Heap) (c:Slot->Bx->Heap->Prop),c s f h'->newVar F t d cs e h' c:=by
 obtain⟨p,g,q⟩:=yU m;unfold newVar at b ⊢;simp only[g]at b ⊢;split at b
 ·rename_i i;rw[bJ]at b;exact⟨_,_,b,λh' c j=>by simp only[i,bJ];exact j⟩
 exact b.elim
theorem AZ {t:TypeId} {d:Option Nat} {n:Nat} {cs:List Value} (m:EG F.L d=true) (b:newRow F t d n cs e h K) :
  ∃ s f,K s f h/\∀(h':Heap) (c:Slot->Bx->Heap->Prop),c s f h'->newRow F t d n cs e h' c:=by
 obtain⟨p,g,q⟩:=yU m;unfold newRow at b ⊢;simp only[g]at b ⊢;split at b
 ·rename_i i;rw[bJ]at b;exact⟨_,_,b,λh' c j=>by simp only[i,bJ];exact j⟩
 exact b.elim
theorem wo {g:TI} {u off:Nat} (b:load g (.l u off) e h K):∃ s,K s none h/\∀(h':Heap) (d:Slot->Bx->Heap->Prop),d s none h'->load g (.l u off) e h' d:=by
 unfold load at b ⊢;simp only at b ⊢;split at b
 ·rename_i j i;try simp only[i]
  split at b
  ·rename_i f;rw[bJ]at b;exact⟨_,b,λh' d c=>by first|exact(bJ _ _).2 c|(simp only[f,bJ];exact c)⟩
  rename_i f;split at b
  ·exact⟨_,b,λh' d c=>by first|exact c|(simp only[f];exact c)⟩
  exact b.elim
 exact b.elim
theorem gv {h':Heap} (i:h.le h') {b:Nat}:∀(n off:Nat) (vs:List Value),dQ h b off n=some vs->dQ h' b off n=some vs:=by
 have j:∀ off v,rd h b off=some v->rd h' b off=some v:=by
  intro off v c;unfold rd at c ⊢;cases d:h b with
  | none=>rw[d]at c;cases c
  | some o=>rw[d]at c;rw[i b o d];exact c
 intro n;induction n with
 | zero=>intro off vs c;exact c
 | succ n m =>
  intro off vs c;simp only[dQ]at c ⊢;split at c
  ·rename_i v r f g;rw[j _ _ f,m _ _ g];exact c
  cases c
theorem yV {t:TI} {x:Slot} (c:load t x e h K):∃ s,K s none h/\∀(h':Heap) (d:Slot->Bx->Heap->Prop),h.le h'->d s none h'->load t x e h' d:=by
 cases x with
 | l A q =>
  obtain⟨s,g,p⟩:=wo c;exact⟨s,g,λh' d _ f=>p h' d f⟩
 | r A k=>exact c.elim
 | x=>exact c.elim
 | v v =>
  unfold load at c ⊢;split at c
  ·rename_i j;cases j
  ·rename_i b q j;cases j
   split at c
   ·rename_i i;rw[pZ]at c;unfold AM at c;obtain⟨B,z,c⟩:=c;refine⟨_,c,λh' d m f=>?_⟩;try simp only[i]
    rw[pZ];unfold AM;exact⟨B,gv m _ _ _ z,f⟩
   rename_i i;split at c
   ·rename_i u;rw[tR]at c;unfold K9 at c;obtain⟨v,y,c⟩:=c;refine⟨_,c,λh' d m f=>?_⟩;try simp only[i,u]
    rw[tR];unfold K9;have:=gv m (b:=b) 1 q [v] (by simp[dQ,y]);simp only[dQ]at this;split at this
    ·rename_i C r g p;simp only[Option.some.injEq,List.cons.injEq]at this;exact⟨v,by rw[g,this.1],f⟩
    cases this
   exact c.elim
  exact c.elim
theorem yW (b:vN P o e h true K):∃ v,K (.v v) none h/\∀(h':Heap) (c:Slot->Bx->Heap->Prop),c (.v v) none h'->vN P o e h' true c:=by
 unfold vN at b;rw[mY]at b;unfold tS at b;obtain⟨i,v,d,g⟩:=b;exact⟨v,d,λh' c f=>by unfold vN;rw[mY];unfold tS;exact⟨i,v,f,g⟩⟩
theorem EU {e':Env} (d:∀ y∈o.op.operands,e'.get y=e.get y) (c:vN P o e h true K):vN P o e' h true K:=by
 unfold vN at c ⊢;rw[mY]at c ⊢;unfold tS at c ⊢;obtain⟨i,v,f,g⟩:=c;exact⟨λx b=>by rw[d x b];exact i x b,v,f,λm j w=>g m (λx b=>by rw[<-d x b];exact j x b) w⟩
theorem EV (i:cls F o=.P\/cls F o=.L) (b:exec P S F true o e h K E) :
  ∃ s v,K s v h/\∀(h':Heap) (j:Slot->Bx->Heap->Prop) (m:List PanicEntry->Heap->Prop),j s v h'->exec P S F true o e h' j m:=by
 obtain⟨H,W,ty,pos,after,guard⟩:=o;cases W with
 | move y =>
  simp only[exec]at b ⊢;cases d:e.get y<;>simp only[d]at b<;>first|exact b.elim|exact⟨_,_,b,λ_ _ _ c=>c⟩
 | assign y =>
  simp only[exec]at b ⊢;cases d:e.get y<;>simp only[d]at b<;>first|exact b.elim|exact⟨_,_,b,λ_ _ _ c=>c⟩
 | pick M y G =>
  simp only[exec]at b ⊢;split at b
  ·rename_i t ht;cases t with
   | true =>
    have b:(match e.get y with | .x=>False|s=>K s none h):=b;cases d:e.get y<;>simp only[d]at b<;>first|exact b.elim|exact⟨_,_,b,λ_ _ _ c=>by (try simp only[ht,d]);exact c⟩
   | false =>
    have b:(match e.get G with | .x=>False|s=>K s none h):=b;cases d:e.get G<;>simp only[d]at b<;>first|exact b.elim|exact⟨_,_,b,λ_ _ _ c=>by (try simp only[ht,d]);exact c⟩
  exact b.elim
 | alloc t =>
  have x:EG F.L H=true:=by
   simp only[cls]at i;split at i
   ·assumption
   simp at i
  simp only[exec]at b ⊢;split at b
  ·rename_i C f;obtain⟨s,v,g,u⟩:=uj x b;exact⟨s,v,g,λh' j m c=>by (try simp only[f]);exact u h' j c⟩
  exact b.elim
 | box t y =>
  have x:EG F.L H=true:=by
   simp only[cls]at i;split at i
   ·assumption
   simp at i
  simp only[exec]at b ⊢;split at b
  ·rename_i z C V f;obtain⟨N,b,R⟩:=iO b;obtain⟨s,v,g,u⟩:=uj x b;exact⟨s,v,g,λh' j m c=>by (try simp only[V,f]);exact R _ (u h' j c)⟩
  exact b.elim
 | build t ps =>
  simp only[exec]at b ⊢;obtain⟨z,b,g⟩:=Ii b;exact⟨_,_,b,λh' j m c=>g _ c⟩
 | buildSlice t k ps =>
  have x:EG F.L H=true:=by
   simp only[cls]at i;split at i
   ·assumption
   simp at i
  simp only[exec]at b ⊢;split at b
  ·rename_i Q f;split at b
   ·rename_i te p;split at b
    ·rename_i hle;obtain⟨qs,b,R⟩:=kN _ _ b;split at b
     ·rename_i N hcs;obtain⟨s,v,g,u⟩:=AZ x b;refine⟨s,v,g,λh' j m c=>?_⟩;try simp only[f,p,hle]
      refine R _ ?_;try simp only[hcs]
      exact u h' j c
     exact b.elim
    exact b.elim
   exact b.elim
  exact b.elim
 | load t y =>
  have x:EG F.LL H=true:=by
   simp only[cls]at i;split at i
   ·assumption
   simp at i
  simp only[exec]at b ⊢;split at b
  ·rename_i C f;simp only[x]at b;split at b
   ·rename_i X off d;obtain⟨s,g,u⟩:=wo b;exact⟨s,none,g,λh' j m c=>by (try simp only[f,x,d]);exact u h' j c⟩
   exact b.elim
  exact b.elim
 | nilCheck y =>
  simp only[exec]at b ⊢;split at b
  ·rename_i d;exact⟨_,_,b,λ_ _ _ c=>by (try simp only[d]);exact c⟩
  ·rename_i d;exact⟨_,_,b,λ_ _ _ c=>by (try simp only[d]);exact c⟩
  ·rename_i d;exact⟨_,_,b,λ_ _ _ c=>by (try simp only[d]);exact c⟩
  ·rename_i d;exact⟨_,_,b,λ_ _ _ c=>by (try simp only[d]);exact c⟩
  exact b.elim
 | binOp W t y G X =>
  simp only[exec]at b ⊢;split at b
  ·rename_i ab J k L d q;split at b
   ·rename_i Nr;obtain⟨z,b,g⟩:=uh b;exact⟨_,_,b,λh' j m c=>by (try simp only[d,q,Nr]);exact g _ c⟩
   exact b.elim
  ·rename_i A M d q;split at b
   ·rename_i f;split at b
    ·exact⟨_,_,b,λh' j m c=>by (try simp only[d,q,f]);exact c⟩
    ·exact⟨_,_,b,λh' j m c=>by (try simp only[d,q,f]);exact c⟩
    exact b.elim
   exact b.elim
  rename_i g u;obtain⟨z,b,g⟩:=yW b;exact⟨_,_,b,λh' j m c=>g h' j c⟩
 | unOp W t y =>
  simp only[exec]at b ⊢;split at b
  ·rename_i A d;exact⟨_,_,b,λ_ _ _ c=>by (try simp only[d]);exact c⟩
  ·rename_i k L d;rw[gu]at b;exact⟨_,_,b,λ_ _ _ c=>by (try simp only[d,gu]);exact c⟩
  exact b.elim
 | convert s t y =>
  simp only[exec]at b ⊢;split at b
  ·rename_i C tj k L f Rj d;split at b
   ·rename_i k' T;rw[gu]at b;exact⟨_,_,b,λ_ _ _ c=>by (try simp only[f,Rj,d,T,gu]);exact c⟩
   exact b.elim
  exact b.elim
 | makeInterface t y =>
  simp only[exec]at b ⊢;split at b
  ·rename_i C z f d;split at b
   ·exact b.elim
   rename_i pV;refine⟨_,_,b,λ_ _ _ c=>?_⟩;try simp only[f,d]
   cases T:C.d<;>first|exact c|exact absurd T pV
  exact b.elim
 | makeFunc aa Y N =>
  simp only[exec]at b ⊢;obtain⟨vs,b,g⟩:=kO _ _ b;obtain⟨us,b,u⟩:=kO _ _ b;exact⟨_,_,b,λ_ _ _ c=>g _ (u _ c)⟩
 | slice t y lo hi mx =>
  simp only[exec]at b ⊢;split at b
  ·rename_i Q f;split at b
   ·rename_i te ad L cap p d;obtain⟨z,b,g⟩:=sQ b;exact⟨_,_,b,λh' j m c=>by (try simp only[f,p,d]);exact g _ c⟩
   exact b.elim
  exact b.elim
 | fieldAddr t y J =>
  simp only[exec]at b ⊢;split at b
  ·rename_i Y f;split at b
   ·rename_i k X B;split at b
    ·rename_i d;exact⟨_,_,b,λ_ _ _ c=>by (try simp only[f,B,d]);exact c⟩
    ·rename_i d;exact⟨_,_,b,λ_ _ _ c=>by (try simp only[f,B,d]);exact c⟩
    exact b.elim
   exact b.elim
  exact b.elim
 | field t y J =>
  simp only[exec]at b ⊢;split at b
  ·rename_i Y f;split at b
   ·rename_i k X B;split at b
    ·rename_i N tu d Li;split at b
     ·rename_i vs AU;cases I:tu.agg with
      | true =>
       simp only[I,bJ]at b;exact⟨_,_,b,λ_ _ _ c=>by (try simp only[f,B,d,Li,AU,I,bJ]);exact c⟩
      | false =>
       simp only[I]at b;split at b
       ·exact⟨_,_,b,λ_ _ _ c=>by (try simp only[f,B,d,Li,AU,I]);exact c⟩
       exact b.elim
     exact b.elim
    exact b.elim
   exact b.elim
  exact b.elim
 | indexAddr t y G =>
  simp only[exec]at b ⊢;split at b
  ·rename_i k J q;split at b
   ·rename_i Q f;split at b
    ·rename_i p d;obtain⟨g,b⟩:=cG.1 b;rw[nV]at b;unfold yI at b;obtain⟨A,off,hp,b⟩:=b;exact⟨_,_,b,λ_ _ _ c=>by (try simp only[q,f,p,d]);exact cG.2 ⟨g,by rw[nV];unfold yI;exact⟨A,off,hp,c⟩⟩⟩
    ·rename_i p d;obtain⟨g,b⟩:=cG.1 b;exact⟨_,_,b,λ_ _ _ c=>by (try simp only[q,f,p,d]);exact cG.2 ⟨g,c⟩⟩
    exact b.elim
   ·rename_i Q f;split at b
    ·rename_i p d;obtain⟨g,b⟩:=cG.1 b;exact⟨_,_,b,λ_ _ _ c=>by (try simp only[q,f,p,d]);exact cG.2 ⟨g,c⟩⟩
    ·rename_i p d;obtain⟨g,b⟩:=cG.1 b;exact⟨_,_,b,λ_ _ _ c=>by (try simp only[q,f,p,d]);exact cG.2 ⟨g,c⟩⟩
    exact b.elim
   exact b.elim
  exact b.elim
 | index t y G =>
  simp only[exec]at b ⊢;split at b
  ·rename_i d q;split at b
   ·rename_i f;obtain⟨g,b⟩:=cG.1 b;exact⟨_,_,b,λ_ _ _ c=>by (try simp only[d,q,f]);exact cG.2 ⟨g,c⟩⟩
   exact b.elim
  exact b.elim
 | extract y J =>
  simp only[exec]at b ⊢;split at b
  ·rename_i vs d;split at b
   ·rename_i z V;exact⟨_,_,b,λ_ _ _ c=>by (try simp only[d,V]);exact c⟩
   exact b.elim
  exact b.elim
 | call M =>
  obtain⟨callee,args,ts⟩:=M;cases callee with
  | value aa=>simp only[cls]at i;split at i<;>simp at i
  | invoke r L=>simp[cls,EM]at i
  | builtin A =>
   cases A with
   | len =>
    simp only[exec]at b ⊢;split at b
    ·rename_i y hargs;split at b
     ·rename_i d;split at b
      ·rename_i f;exact⟨_,_,b,λ_ _ _ c=>by (try simp only[hargs,d,f]);exact c⟩
      exact b.elim
     ·rename_i d;split at b
      ·rename_i f;exact⟨_,_,b,λ_ _ _ c=>by (try simp only[hargs,d,f]);exact c⟩
      exact b.elim
     exact b.elim
    exact b.elim
   | append=>simp[cls]at i
   | max =>
    simp only[exec]at b ⊢;split at b
    ·split at b
     ·split at b
      ·exact⟨_,_,b,λ_ _ _ c=>by first|exact c|(simp only[*];exact c)⟩
      exact b.elim
     exact b.elim
    exact b.elim
   | min =>
    simp only[exec]at b ⊢;split at b
    ·split at b
     ·split at b
      ·exact⟨_,_,b,λ_ _ _ c=>by first|exact c|(simp only[*];exact c)⟩
      exact b.elim
     exact b.elim
    exact b.elim
   | cap =>
    simp only[exec]at b ⊢;split at b
    ·split at b
     ·split at b
      ·exact⟨_,_,b,λ_ _ _ c=>by first|exact c|(simp only[*];exact c)⟩
      exact b.elim
     exact b.elim
    exact b.elim
   | _=>simp[cls,EM]at i
 | _=>simp[cls,EM]at i
def Slot.refs:Slot->Nat->Prop
 | .l t _,u=>t=u
 | .r t _,u=>t=u
 | _,_=>False
structure tw (F:Fs) (o:Oper) (e:Env) (h:Heap) (s:Slot) (bx:Bx) (h':Heap):Prop where
 fb:∀ u cs,bx=some (u,cs)->(o.dst=some u/\e.b u=none)\/(cls F o=.W/\∃ y∈o.op.operands,(e.get y).refs u)
 fs:∀ u,s.refs u->(∃ y∈o.op.operands,(e.get y).refs u)\/(∃ cs,bx=some (u,cs))
 le:cls F o≠.W->cls F o≠.A->h.le h'
structure J2 (F:Fs) (o:Oper) (e e':Env):Prop where
 get:∀ y∈o.op.operands,e'.get y=e.get y
 box:cls F o=.P\/∀ y∈o.op.operands,∀ u,(e.get y).refs u->e'.b u=e.b u
 dst:∀ d,o.dst=some d->e.b d=none->e'.b d=none
theorem tw.plain {x:Value}:tw F o e h (.v x) none h:=⟨(λ_ _ b=>by cases b),λ_ b=>b.elim,λ_ _=>Heap.le_refl h⟩
theorem tw.same {s:Slot} {y:Operand} (d:y∈o.op.operands) (c:e.get y=s):tw F o e h s none h :=
 ⟨(λ_ _ b=>by cases b),λu b=>.inl ⟨y,d,by rw[c];exact b⟩,λ_ _=>Heap.le_refl h⟩
theorem rQ {e':Env} {d:Nat->Option TI}:∀(c:List (Nat × Operand)) (Kp:List (Nat × List Value)->Prop),(∀ p∈c,e'.get p.2=e.get p.2)->parts e d c Kp->parts e' d c Kp
 | [],Kp,_,b=>b
 | (i,x)::c,Kp,hg,b=>by
  simp only[parts,hg (i,x) Z]at b ⊢;split at b
  ·obtain⟨j,b,f⟩:=iO b;exact f _ (rQ c _ (λp g=>hg p (by simp[g])) b)
  exact b.elim
theorem qe {e':Env}:∀(xs:List Operand) (b:List Value->Prop),(∀ x∈xs,e'.get x=e.get x)->bp e xs b->bp e' xs b
 | [],b,_,hx=>hx
 | x::xs,b,hg,hx=>by
  simp only[bp,hg x Z]at hx ⊢;split at hx
  ·exact qe xs _ (λy c=>hg y (by simp[c])) hx
  exact hx.elim
theorem sR {e':Env} {t:TypeId} {cs:List Value} {j:Slot->Bx->Heap->Prop} (q:∀ d,o.dst=some d->e.b d=none->e'.b d=none) (c:newVar F t o.dst cs e h K)
  (m:∀ s i h',K s i h'->tw F o e h s i h'->j s i h'):newVar F t o.dst cs e' h j:=by
 unfold newVar at c ⊢;split at c
 ·rename_i d g;have g:=lV g;split at c
  ·rename_i f;rw[bJ]at c;simp only[q d g f,bJ];exact m _ _ _ c ⟨λu v b=>by simp only[Option.some.injEq,Prod.mk.injEq]at b;exact .inl ⟨by rw[g,b.1],by rw[<-b.1];exact f⟩,λu b=>.inr ⟨_,by cases b;rfl⟩,λ_ _=>Heap.le_refl h⟩
  exact c.elim
 rw[lQ]at c ⊢;unfold xk at c ⊢;intro p f;exact m _ _ _ (c p f) ⟨(λ_ _ b=>by cases b),λ_ b=>b.elim,λ_ _=>Heap.xF _ f⟩
theorem yX {e':Env} {t:TypeId} {n:Nat} {cs:List Value} {j:Slot->Bx->Heap->Prop} (q:∀ d,o.dst=some d->e.b d=none->e'.b d=none) (c:newRow F t o.dst n cs e h K)
  (m:∀ s i h',K s i h'->tw F o e h s i h'->j s i h'):newRow F t o.dst n cs e' h j:=by
 unfold newRow at c ⊢;split at c
 ·rename_i d g;have g:=lV g;split at c
  ·rename_i f;rw[bJ]at c;simp only[q d g f,bJ];exact m _ _ _ c ⟨λu v b=>by simp only[Option.some.injEq,Prod.mk.injEq]at b;exact .inl ⟨by rw[g,b.1],by rw[<-b.1];exact f⟩,λu b=>.inr ⟨_,by cases b;rfl⟩,λ_ _=>Heap.le_refl h⟩
  exact c.elim
 rw[lQ]at c ⊢;unfold xk at c ⊢;intro p f;exact m _ _ _ (c p f) ⟨(λ_ _ b=>by cases b),λ_ b=>b.elim,λ_ _=>Heap.xF _ f⟩
theorem yY {e':Env} {d:TI} {x:Slot} (q:∀ u,x.refs u->e'.b u=e.b u) (b:load d x e h K):∃ v,K (.v v) none h/\∀ f:Slot->Bx->Heap->Prop,f (.v v) none h->load d x e' h f:=by
 cases x with
 | l u j =>
  have s:tU e' u j d.size=tU e u j d.size:=by unfold tU;rw[q u rfl]
  unfold load at b ⊢;simp only[s]at b ⊢;cases i:tU e u j d.size with
  | none=>rw[i]at b;exact b.elim
  | some p =>
   rw[i]at b;cases g:d.agg with
   | true =>
    simp only[g,bJ]at b;exact⟨_,b,λf c=>by simp only[bJ];exact c⟩
   | false =>
    simp only[g]at b;rcases p with _|⟨v,_|_⟩
    ·exact b.elim
    ·exact⟨_,b,λf c=>c⟩
    exact b.elim
 | r u k=>exact b.elim
 | x=>exact b.elim
 | v v =>
  obtain⟨B,z,A⟩:=yV b;unfold load at b ⊢;split at b
  ·rename_i m;cases m
  ·rename_i y j m;cases m
   cases g:d.agg with
   | true =>
    simp only[g]at b;rw[pZ]at b ⊢;unfold AM at b ⊢;obtain⟨p,i,b⟩:=b;exact⟨_,b,λf c=>⟨p,i,c⟩⟩
   | false =>
    simp only[g]at b;split at b
    ·rw[tR]at b ⊢;unfold K9 at b ⊢;obtain⟨v,t,b⟩:=b;exact⟨_,b,λf c=>⟨v,t,c⟩⟩
    exact b.elim
  exact b.elim
theorem Ij {e':Env} {d f:Value->Heap->Prop} (g:∀ y∈o.op.operands,e'.get y=e.get y) (c:Raw P o e h d) (p:∀ v h',d v h'->f v h'):Raw P o e' h f:=by
 rw[ki]at c ⊢;unfold vM at c ⊢;refine⟨λx b=>by rw[g x b];exact c.1 x b,λu s w q=>?_⟩;obtain⟨v,t,h',i,j,m⟩:=c.2 u (λx b=>by rw[<-g x b];exact s x b) w q;exact⟨v,t,h',i,j,p _ _ m⟩
theorem cF.mono {f:FuncId} {args:List Value} {R b:Out->Heap->Prop} (i:cF P f args h R) (d:∀ o h',R o h'->b o h'):cF P f args h b:=by
 intro w g;refine(i w g).mono ?_;rintro e j ⟨h',m,c⟩;refine⟨h',m,?_⟩;cases e<;>first|exact d _ _ c|exact c
theorem Dx {e':Env} {i:TI} {x:Slot} {v:Value} {f:Slot->Bx->Heap->Prop} (t:∀ u,x.refs u->e'.b u=e.b u) (b:store i x v e h K)
  (g:∀ s d h',K s d h'->(s=.v undef/\∀ u cs,d=some (u,cs)->x.refs u)->f s d h'):store i x v e' h f:=by
 unfold store at b ⊢;obtain⟨I,b,q⟩:=iO b;refine q _ ?_;split at b
 ·exact b.elim
 cases x with
 | l u y =>
  simp only at b ⊢;rw[t u rfl];split at b
  ·split at b
   ·rw[bJ]at b;exact(bJ _ _).2 (g _ _ _ b ⟨rfl,λH C c=>by simp only[Option.some.injEq,Prod.mk.injEq]at c;exact c.1⟩)
   exact b.elim
  exact b.elim
 | v v =>
  cases v with
  | pointer z =>
   rcases z with _|⟨B,y,_|G⟩
   ·exact b.elim
   ·simp only at b ⊢;rw[AO]at b ⊢;unfold NT at b ⊢;obtain⟨cs,A,j,m,p⟩:=b;exact⟨cs,A,j,m,g _ _ _ p ⟨rfl,(λ_ _ c=>by cases c)⟩⟩
   exact b.elim
  | _=>exact b.elim
 | _=>exact b.elim
theorem A0 {e':Env} {f:Nat} {x:Slot} {d:Nat->List Value->Prop} (i:∀ u,x.refs u->e'.b u=e.b u) (b:appArg e f x h d) :
  ∃ m vs,d m vs/\∀ Kd:Nat->List Value->Prop,Kd m vs->appArg e' f x h Kd:=by
 unfold appArg at b ⊢;split at b
 ·rename_i v k;simp only[i v rfl];split at b
  ·split at b
   ·rename_i j;exact⟨_,_,b,λ_ c=>by (try simp only[j]);exact c⟩
   exact b.elim
  exact b.elim
 ·rw[p0]at b ⊢;unfold AN at b ⊢;rcases b with ⟨s,b⟩|⟨g,t,vs,p,q,b⟩
  ·exact⟨_,_,b,λ_ c=>.inl ⟨s,c⟩⟩
  exact⟨_,_,b,λ_ c=>.inr ⟨g,t,vs,p,q,c⟩⟩
 exact b.elim
theorem App.mono {bytes u:Nat} {zero:List Value} {t:TypeId} {p:Option Addr} {n cap m:Nat} {vs:List Value} {j q:Value->Heap->Prop} (c:App bytes u zero t h p n cap m vs j) (i:∀ v h',j v h'->q v h') :
  App bytes u zero t h p n cap m vs q:=by
 rw[lS]at c ⊢;unfold xl at c ⊢;refine⟨λhle=>?_,λC=>?_⟩
 ·obtain⟨d,b⟩:=c.1 hle;refine⟨d,?_⟩;rcases p with _|⟨s,I,_|J⟩
  ·exact⟨b.1,i _ _ b.2⟩
  ·obtain⟨y,H,f,g,z⟩:=b;exact⟨y,H,f,g,i _ _ z⟩
  exact b.elim
 obtain⟨d,b,G,f,g⟩:=c.2 C;exact⟨d,b,G,f,λs x A B=>i _ _ (g s x A B)⟩
theorem yZ {x:Bool} {g:Value} {args:List Value} {f:Slot->Bx->Heap->Prop} (b:mZ P S x g args h K E) (i:∀ s d h',K s d h'->(∃ v,s=.v v)->d=none->(x=true->h.le h')->f s d h'):mZ P S x g args h f E:=by
 unfold mZ at b ⊢;split at b
 ·split at b
  ·rw[bJ]at b ⊢;cases x with
   | true =>
    simp only at b ⊢;rw[nU]at b ⊢;unfold rI at b ⊢;refine b.mono λo h' c=>?_;cases o with
    | ret v=>exact⟨c.1,i _ _ _ c.2 ⟨v,rfl⟩ rfl (λ_=>c.1)⟩
    | jj j=>exact c
   | false =>
    simp only at b ⊢;rw[pY]at b ⊢;unfold tQ at b ⊢;refine b.mono λo h' c=>?_;cases o with
    | ret v=>exact i _ _ _ c ⟨v,rfl⟩ rfl (λh0=>by cases h0)
    | jj j=>exact c
  exact b.elim
 exact b.elim
theorem N6 {o:Oper} (b:EM o.op=true):cls F o=.W:=by
 obtain⟨j,g,t,q,i,guard⟩:=o;cases g with
 | call d =>
  obtain⟨f,args,s⟩:=d;cases f with
  | value m=>cases b
  | invoke r p=>rfl
  | builtin c=>cases c<;>first|rfl|cases b
 | _=>first|rfl|cases b
theorem kP {e':Env} {I:Slot->Bx->Heap->Prop} (c:J2 F o e e') (b:exec P S F true o e h K E)
  (v:∀ s J h',K s J h'->tw F o e h s J h'->I s J h'):exec P S F true o e' h I E:=by
 obtain⟨N,Q,T,R,M,guard⟩:=o;have i:∀ A,K (.v A) none h->I (.v A) none h:=λA hv=>v _ _ _ hv tw.plain;have j:∀ W:Bool,W=EM Q->(match true && !W with
  | true=>False
  | false=>Raw P ⟨N,Q,T,R,M,guard⟩ e h λA h'=>K (.v A) none h')->(match true && !W with
  | true=>False
  | false=>Raw P ⟨N,Q,T,R,M,guard⟩ e' h λA h'=>I (.v A) none h'):=by
  intro W hW hr;cases W with
  | false=>exact hr
  | true =>
   refine Ij c.get hr λA h' hv=>v _ _ _ hv ⟨(λ_ _ g=>by cases g),(λ_ g=>g.elim),λB _=>?_⟩;exact absurd (N6 hW.symm) B
 cases Q with
 | move y =>
  have d:=c.get y (by simp[Op.operands]);simp only[exec,d]at b ⊢;cases m:e.get y<;>simp only[m]at b<;>first|exact b.elim|exact v _ _ _ b (tw.same (y:=y) (by simp[Op.operands]) m)
 | assign y =>
  have d:=c.get y (by simp[Op.operands]);simp only[exec,d]at b ⊢;cases m:e.get y<;>simp only[m]at b<;>first|exact b.elim|exact v _ _ _ b (tw.same (y:=y) (by simp[Op.operands]) m)
 | pick aa y z =>
  have X9:=c.get aa (by simp[Op.operands]);have p:=c.get y (by simp[Op.operands]);have q:=c.get z (by simp[Op.operands]);simp only[exec,X9,p,q]at b ⊢;split at b
  ·rename_i t ht;cases t with
   | true =>
    have b:(match e.get y with | .x=>False|s=>K s none h):=b;show(match e.get y with | .x=>False|s=>I s none h);cases m:e.get y<;>simp only[m]at b<;>first|exact b.elim|exact v _ _ _ b (tw.same (y:=y) (by simp[Op.operands]) m)
   | false =>
    have b:(match e.get z with | .x=>False|s=>K s none h):=b;show(match e.get z with | .x=>False|s=>I s none h);cases m:e.get z<;>simp only[m]at b<;>first|exact b.elim|exact v _ _ _ b (tw.same (y:=z) (by simp[Op.operands]) m)
  exact b.elim
 | alloc t =>
  simp only[exec]at b ⊢;split at b
  ·exact sR (o:=⟨N,.alloc t,T,R,M,guard⟩) c.dst b v
  exact b.elim
 | box t y =>
  have d:=c.get y (by simp[Op.operands]);simp only[exec,d]at b ⊢;split at b
  ·obtain⟨cs,b,h3⟩:=iO b;exact h3 _ (sR (o:=⟨N,.box t y,T,R,M,guard⟩) c.dst b v)
  exact b.elim
 | build t ps =>
  have d:∀ G∈ps.toList,e'.get G.2=e.get G.2:=λG Y=>c.get G.2 (by simp only[Op.operands];exact List.mem_toArray.2 (List.mem_map.2 ⟨G,Y,rfl⟩));simp only[exec]at b ⊢;unfold Lb at b ⊢;split at b
  ·split at b
   ·exact b.elim
   obtain⟨qs,b,f⟩:=kN _ _ b;refine rQ _ _ d (f _ ?_);split at b
   ·rw[bJ]at b ⊢;exact i _ b
   exact b.elim
  exact b.elim
 | buildSlice t k ps =>
  have d:∀ G∈ps.toList,e'.get G.2=e.get G.2:=λG Y=>c.get G.2 (by simp only[Op.operands];exact List.mem_toArray.2 (List.mem_map.2 ⟨G,Y,rfl⟩));simp only[exec]at b ⊢;split at b
  ·split at b
   ·split at b
    ·obtain⟨qs,b,h3⟩:=kN _ _ b;refine rQ _ _ d (h3 _ ?_);split at b
     ·exact yX (o:=⟨N,.buildSlice t k ps,T,R,M,guard⟩) c.dst b v
     exact b.elim
    exact b.elim
   exact b.elim
  exact b.elim
 | load t y =>
  have d:=c.get y (by simp[Op.operands]);have x:∀ u,(e.get y).refs u->e'.b u=e.b u:=by
   rcases c.box with B|x
   ·simp only[cls]at B;split at B<;>cases B
   exact x y (by simp[Op.operands])
  simp only[exec,d]at b ⊢;split at b
  ·split at b
   ·split at b
    ·rename_i u off m;obtain⟨A,f,X⟩:=yY (e':=e') (λu' hu=>x u' (by rw[m];exact hu)) b;exact X _ (i _ f)
    exact b.elim
   obtain⟨A,f,X⟩:=yY (e':=e') x b;exact X _ (i _ f)
  exact b.elim
 | store t y z =>
  have p:=c.get y (by simp[Op.operands]);have q:=c.get z (by simp[Op.operands]);have x:∀ u,(e.get y).refs u->e'.b u=e.b u:=by
   rcases c.box with B|x
   ·simp[cls,EM]at B
   exact x y (by simp[Op.operands])
  simp only[exec,p,q]at b ⊢;split at b
  ·refine Dx x b λs J h' hK hr=>v _ _ _ hK ?_;refine⟨λu cs g=>.inr ⟨by simp[cls,EM],y,by simp[Op.operands],hr.2 u cs g⟩,λu hu=>?_,λB _=>?_⟩
   ·rw[hr.1]at hu;exact hu.elim
   exact absurd (by simp[cls,EM]) B
  exact b.elim
 | nilCheck y =>
  have d:=c.get y (by simp[Op.operands]);simp only[exec,d]at b ⊢;split at b
  ·rename_i m;exact v _ _ _ b (tw.same (y:=y) (by simp[Op.operands]) m)
  ·exact i _ b
  ·exact i _ b
  ·exact i _ b
  exact j _ rfl b
 | binOp Q t y z u =>
  have p:=c.get y (by simp[Op.operands]);have q:=c.get z (by simp[Op.operands]);simp only[exec,p,q]at b ⊢;split at b
  ·split at b
   ·obtain⟨A,b,f⟩:=uh b;exact f _ (i _ b)
   exact j _ rfl b
  ·split at b
   ·split at b
    ·exact i _ b
    ·exact i _ b
    exact j _ rfl b
   exact j _ rfl b
  obtain⟨A,b,f⟩:=yW b;exact EU c.get (f h (λs J h'=>I s J h') (i _ b))
 | unOp Q t y =>
  have d:=c.get y (by simp[Op.operands]);simp only[exec,d]at b ⊢;split at b
  ·exact i _ b
  ·rw[gu]at b ⊢;exact i _ b
  exact j _ rfl b
 | convert s t y =>
  have d:=c.get y (by simp[Op.operands]);simp only[exec,d]at b ⊢;split at b
  ·split at b
   ·rw[gu]at b ⊢;exact i _ b
   exact j _ rfl b
  exact j _ rfl b
 | makeInterface t y =>
  have d:=c.get y (by simp[Op.operands]);simp only[exec,d]at b ⊢;split at b
  ·split at b
   ·exact b.elim
   exact i _ b
  exact b.elim
 | makeFunc ab fs cs =>
  simp only[exec]at b ⊢;obtain⟨vs,b,f⟩:=kO _ _ b;obtain⟨us,b,X⟩:=kO _ _ b;refine qe _ _ (λH L=>c.get H (by simp only[Op.operands];exact Array.mem_append.2 (.inl (Array.mem_toList_iff.1 L)))) (f _ ?_);exact qe _ _ (λH L=>c.get H (by simp only[Op.operands];exact Array.mem_append.2 (.inr (Array.mem_toList_iff.1 L)))) (X _ (i _ b))
 | slice t y lo hi mx =>
  have d:=c.get y (by simp[Op.operands]);have N7:fG e' lo=fG e lo:=by
   cases lo with
   | none=>rfl
   | some H=>simp only[fG];rw[c.get H (by simp[Op.operands])]
  have Ya:fG e' hi=fG e hi:=by
   cases hi with
   | none=>rfl
   | some H=>simp only[fG];rw[c.get H (by simp[Op.operands])]
  simp only[exec,d,N7,Ya]at b ⊢;split at b
  ·split at b
   ·obtain⟨A,b,f⟩:=sQ b;exact f _ (i _ b)
   exact j _ rfl b
  exact j _ rfl b
 | fieldAddr t y ad =>
  have d:=c.get y (by simp[Op.operands]);simp only[exec,d]at b ⊢;split at b
  ·split at b
   ·split at b
    ·rename_i u off m;exact v _ _ _ b ⟨(λ_ _ g=>by cases g),(λu' g=>.inl ⟨y,by simp[Op.operands],by rw[m];exact g⟩),λ_ _=>Heap.le_refl h⟩
    ·exact i _ b
    exact b.elim
   exact b.elim
  exact b.elim
 | field t y ad =>
  have d:=c.get y (by simp[Op.operands]);simp only[exec,d]at b ⊢;split at b
  ·split at b
   ·split at b
    ·rename_i cs tu m Li;split at b
     ·cases Dw:tu.agg with
      | true=>simp only[Dw,bJ]at b ⊢;exact i _ b
      | false =>
       simp only[Dw]at b;simp only;split at b
       ·exact i _ b
       exact b.elim
     exact b.elim
    exact b.elim
   exact b.elim
  exact b.elim
 | indexAddr t y z =>
  have p:=c.get y (by simp[Op.operands]);have q:=c.get z (by simp[Op.operands]);simp only[exec,p,q]at b ⊢;split at b
  ·split at b
   ·split at b
    ·obtain⟨f,b⟩:=cG.1 b;rw[nV]at b ⊢;unfold yI at b ⊢;obtain⟨V,off,Y,b⟩:=b;exact cG.2 ⟨f,V,off,Y,i _ b⟩
    ·rename_i m;obtain⟨f,b⟩:=cG.1 b;exact cG.2 ⟨f,v _ _ _ b ⟨(λ_ _ g=>by cases g),(λu' g=>.inl ⟨y,by simp[Op.operands],by rw[m];exact g⟩),λ_ _=>Heap.le_refl h⟩⟩
    exact b.elim
   ·split at b
    ·obtain⟨f,b⟩:=cG.1 b;exact cG.2 ⟨f,i _ b⟩
    ·rename_i m;obtain⟨f,b⟩:=cG.1 b;exact cG.2 ⟨f,v _ _ _ b ⟨(λ_ _ g=>by cases g),(λu' g=>.inl ⟨y,by simp[Op.operands],by rw[m];exact g⟩),λ_ _=>Heap.le_refl h⟩⟩
    exact b.elim
   exact b.elim
  exact b.elim
 | index t y z =>
  have p:=c.get y (by simp[Op.operands]);have q:=c.get z (by simp[Op.operands]);simp only[exec,p,q]at b ⊢;split at b
  ·split at b
   ·obtain⟨f,b⟩:=cG.1 b;exact cG.2 ⟨f,i _ b⟩
   exact j _ rfl b
  exact j _ rfl b
 | extract y ad =>
  have d:=c.get y (by simp[Op.operands]);simp only[exec,d]at b ⊢;split at b
  ·split at b
   ·exact i _ b
   exact b.elim
  exact b.elim
 | makeSlice t y z =>
  have p:=c.get y (by simp[Op.operands]);have q:=c.get z (by simp[Op.operands]);simp only[exec,p,q]at b ⊢;split at b
  ·split at b
   ·obtain⟨f,b⟩:=cG.1 b;refine cG.2 ⟨f,?_⟩;rw[lQ]at b ⊢;unfold xk at b ⊢;exact λV x=>v _ _ _ (b V x) ⟨(λ_ _ g=>by cases g),(λ_ g=>g.elim),λ_ _=>Heap.xF _ x⟩
   exact b.elim
  exact b.elim
 | panic y =>
  have d:=c.get y (by simp[Op.operands]);simp only[exec,d]at b ⊢;exact b
 | call aa =>
  obtain⟨callee,args,ts⟩:=aa;cases callee with
  | value ab =>
   have d:=c.get ab (by simp[Op.operands,Call.operands]);simp only[exec,d]at b ⊢;split at b
   ·obtain⟨vs,b,f⟩:=kO _ _ b;refine qe _ _ (λH L=>c.get H (by simp[Op.operands,Call.operands,Array.mem_toList_iff.1 L])) (f _ ?_);refine yZ b λs J h' hK hs Yb hle=>v _ _ _ hK ?_;obtain⟨A,rfl⟩:=hs;subst Yb;refine⟨(λ_ _ g=>by cases g),(λ_ g=>g.elim),λ_ hA=>hle ?_⟩;cases L:La F ab with
    | true=>exact absurd (by simp only[cls,L]) hA
    | false=>rfl
   exact b.elim
  | invoke r ae=>exact j _ rfl b
  | builtin V =>
   cases V with
   | len =>
    simp only[exec]at b ⊢;split at b
    ·rename_i y C;have d:=c.get y (by simp[Op.operands,Call.operands,Array.mem_toList_iff.1 (show y∈args.toList by rw[C];simp)]);simp only[d];split at b
     ·split at b
      ·exact i _ b
      exact b.elim
     ·split at b
      ·exact i _ b
      exact b.elim
     exact j _ rfl b
    exact b.elim
   | max =>
    simp only[exec]at b ⊢;split at b
    ·rename_i y z C;have p:=c.get y (by simp[Op.operands,Call.operands,Array.mem_toList_iff.1 (show y∈args.toList by rw[C];simp)]);have q:=c.get z (by simp[Op.operands,Call.operands,Array.mem_toList_iff.1 (show z∈args.toList by rw[C];simp)]);simp only[p,q];split at b
     ·split at b
      ·exact i _ b
      exact j _ rfl b
     exact j _ rfl b
    exact j _ rfl b
   | min =>
    simp only[exec]at b ⊢;split at b
    ·rename_i y z C;have p:=c.get y (by simp[Op.operands,Call.operands,Array.mem_toList_iff.1 (show y∈args.toList by rw[C];simp)]);have q:=c.get z (by simp[Op.operands,Call.operands,Array.mem_toList_iff.1 (show z∈args.toList by rw[C];simp)]);simp only[p,q];split at b
     ·split at b
      ·exact i _ b
      exact j _ rfl b
     exact j _ rfl b
    exact j _ rfl b
   | cap =>
    simp only[exec]at b ⊢;split at b
    ·rename_i y C;have d:=c.get y (by simp[Op.operands,Call.operands,Array.mem_toList_iff.1 (show y∈args.toList by rw[C];simp)]);simp only[d];split at b
     ·split at b
      ·exact i _ b
      exact b.elim
     exact j _ rfl b
    exact b.elim
   | append =>
    simp only[exec]at b ⊢;split at b
    ·rename_i y z t u C Qp;have p:=c.get y (by simp[Op.operands,Call.operands,Array.mem_toList_iff.1 (show y∈args.toList by rw[C];simp)]);have Wd:z∈(⟨N,.call ⟨.builtin .append,args,ts⟩,T,R,M,guard⟩:Oper).op.operands:=by
      simp[Op.operands,Call.operands,Array.mem_toList_iff.1 (show z∈args.toList by rw[C];simp)]
     have q:=c.get z Wd;have x:∀ u,(e.get z).refs u->e'.b u=e.b u:=by
      rcases c.box with B|x
      ·simp[cls]at B
      exact x z Wd
     simp only[p,q];split at b
     ·split at b
      ·split at b
       ·obtain⟨ae,vs,b,f⟩:=A0 (e':=e') x b;exact f _ (b.mono λA h' hv=>v _ _ _ hv ⟨(λ_ _ g=>by cases g),(λ_ g=>g.elim),λ_ B=>absurd (by simp[cls]) B⟩)
       exact b.elim
      exact b.elim
     exact j _ rfl b
    exact b.elim
   | _=>exact j _ rfl b
 | _=>exact j _ rfl b
def gd (f:Array Oper) (o:Oper) (e:Env):Option Bool :=
 match o.guard with
 | none=>some true
 | some (j,w)=>match f[j]? with
  | none=>some false
  | some c=>match c.dst with
   | none=>some false
   | some d=>match e.s d with
    | .v (.bool b)=>some (b==w)
    | .v (.tuple _)=>some false
    | _=>none
def one (P:Program) (S:iK) (F:Fs) (d:Array Oper) (o:Oper) (e:Env) (h:Heap) (K:Env->Heap->Prop) (E:List PanicEntry->Heap->Prop):Prop :=
 match gd d o e with
 | some true=>exec P S F true o e h (λs b c=>K (e.put o.dst s b) c) E
 | some false=>K (e.put o.dst (.v undef) none) h
 | none=>False
theorem EW {d:Nat} {s:Slot} (b:e.s d=s):e.put (some d) s none=e:=by
 unfold Env.put;cases e with
 | mk g f =>
  simp only at b ⊢;congr 1
  funext t
  split
  ·rename_i c;rw[c,b]
  rfl
theorem iw {b:Array Oper} {K:Env->Heap->Prop}:p9 P S F true b.toList o e h K E↔one P S F b o e h K E:=by
 unfold p9 one guardOf gd;cases p:o.guard with
 | none=>exact Iff.rfl
 | some g =>
  obtain⟨j,w⟩:=g;simp only[rO,Array.getElem?_toList];cases q:b[j]? with
  | none=>exact Iff.rfl
  | some i =>
   simp only;cases m:i.dst with
   | none=>exact Iff.rfl
   | some d =>
    simp only;cases f:e.s d with
    | v x =>
     cases x with
     | bool c =>
      simp only;cases c<;>cases w<;>simp only[EW f]<;>exact Iff.rfl
     | _=>exact Iff.rfl
    | _=>exact Iff.rfl
def tA (P:Program) (S:iK) (F:Fs) (b:Array Oper) (K:Env->Heap->Prop) (E:List PanicEntry->Heap->Prop):Nat->Array Bool->Env->Heap->Prop
 | 0,listed,e,h=>Region.ready .any b listed=[]/\K e h
 | k+1,listed,e,h=>(Region.ready .any b listed=[]->K e h) /\
  ∀ i∈Region.ready .any b listed,∃ o,b[i]? = some o/\one P S F b o e h (λc d=>tA P S F b K E k (listed.setIfInBounds i true) c d) E
theorem pq {n:Nat} (q:dg P S) {i:Array Oper} (s:∀ o∈i.toList,∀ m,o.dst=some m->m < n) {K:Env->Heap->Prop} {Q:Exit->Act->World->Prop} {h0:Heap} {w0:World}
  (f:∀ e' h' j b w',K e' h'->Rel D n h0 w0 j e' h' b w'->Q .normal b w')
  (p:∀ c h' b w',E c h'->cK h0 w0 h' w'->b.defers=D->Q (.panic c) b w') :
  ∀(k:Nat) (d:Array Bool) (e:Env) (h:Heap) (β:Nat->Nat) (a:Act) (w:World),tA P S F i K E k d e h->Rel D n h0 w0 β e h a w->wpAny P .any i Q k d a w
 | 0,d,e,h,β,a,w,hx,r=>⟨hx.1,f _ _ β _ _ hx.2 r⟩
 | k+1,d,e,h,β,a,w,hx,r=>⟨λh0=>f _ _ β _ _ (hx.1 h0) r,λy x=>by
   obtain⟨o,g,t⟩:=hx.2 y x;exact m5 q g r (s o (by rw[<-Array.getElem?_toList]at g;exact List.mem_of_getElem? g)) (iw.2 t) (λe' h' j b w' u v=>pq q s f p k _ e' h' j b w' u v) p⟩
def WF (e:Env):Prop:=∀ t u,(e.s t).refs u->(e.b u).isSome
theorem WF.get (c:WF e) {y:Operand} {u:Nat} (b:(e.get y).refs u):(e.b u).isSome:=by
 cases y with
 | tmp t=>exact c t u b
 | _=>exact b.elim
theorem Rel.wf {n:Nat} {h0:Heap} {w0:World} {β:Nat->Nat} {a:Act} {w:World} (r:Rel D n h0 w0 β e h a w):WF e:=by
 intro t u b;have:=r.slot t;revert b this
 cases e.s t<;>intro b this<;>first|exact b.elim|(cases b;exact this.2)
theorem A1 (j:WF e) {f:Option Nat} {s:Slot} {c:Bx} (p:∀ u,s.refs u->(e.b u).isSome\/∃ cs,c=some (u,cs)):WF (e.put f s c):=by
 have i:∀ u,((e.b u).isSome\/∃ cs,c=some (u,cs))->((e.put f s c).b u).isSome:=by
  intro u b;unfold Env.put;cases c with
  | none =>
   rcases b with b|⟨cs,g⟩
   ·exact b
   cases g
  | some q =>
   obtain⟨x,v⟩:=q;simp only;split
   ·rfl
   rename_i m;rcases b with b|⟨cs,g⟩
   ·exact b
   simp only[Option.some.injEq,Prod.mk.injEq]at g;exact absurd g.1.symm m
 intro t u d;cases f with
 | none=>exact i u (.inl (j t u d))
 | some f =>
  simp only[Env.put]at d;split at d
  ·exact i u (p u d)
  exact i u (.inl (j t u d))
theorem Cz {d:Option Nat} {s:Slot} {c:Bx} {y:Operand} (g:∀ b,d=some b->y≠.tmp b):(e.put d s c).get y=e.get y:=by
 cases y with
 | tmp t =>
  cases d with
  | none=>rfl
  | some d =>
   have:t≠d:=λf=>g d rfl (by rw[f]);simp[Env.get,Env.put,this]
 | _=>rfl
theorem y5 {d:Option Nat} {s:Slot} {c:Bx} {u:Nat} (f:∀ b cs,c=some (b,cs)->u≠b):(e.put d s c).b u=e.b u:=by
 cases c with
 | none=>rfl
 | some g=>obtain⟨b,cs⟩:=g;simp[Env.put,f b cs rfl]
theorem put_comm {g i:Option Nat} {s p:Slot} {d f:Bx} (v:∀ t,g=some t->i≠some t) (q:∀ u cs,d=some (u,cs)->∀ c j,f=some (c,j)->u≠c) :
  (e.put g s d).put i p f=(e.put i p f).put g s d:=by
 unfold Env.put;congr 1
 ·cases g with
  | none=>rfl
  | some t =>
   cases i with
   | none=>rfl
   | some y =>
    have m:t≠y:=λx=>v t rfl (by rw[x]);funext k
    simp only;by_cases b:k=t
    ·subst b;simp[m]
    simp[b]
 cases d with
 | none=>rfl
 | some z =>
  cases f with
  | none=>rfl
  | some A =>
   obtain⟨u,cs⟩:=z;obtain⟨c,j⟩:=A;have m:u≠c:=q u cs rfl c j rfl;funext k
   simp only;by_cases b:k=u
   ·subst b;simp[m]
   simp[b]
theorem A2 {b:Array Oper} {d:Option Nat} {s:Slot} {c:Bx} (m:∀ f,d=some f->f ∉ o.looksAt b):gd b o (e.put d s c)=gd b o e:=by
 unfold gd;cases i:o.guard with
 | none=>rfl
 | some u =>
  obtain⟨q,w⟩:=u;simp only;cases p:b[q]? with
  | none=>rfl
  | some v =>
   simp only;cases g:v.dst with
   | none=>rfl
   | some t =>
    simp only;have:(e.put d s c).s t=e.s t:=by
     cases d with
     | none=>rfl
     | some d =>
      have:t≠d:=λj=>m d rfl (by simp[Oper.looksAt,i,p,g,j]);simp[Env.put,this]
    rw[this]
theorem y6 {j:Array Oper} {d:Option Nat} (g:∀ b,d=some b->b ∉ o.looksAt j) {y:Operand} (i:y∈o.op.operands):∀ b,d=some b->y≠.tmp b:=by
 intro b c f;refine g b c ?_;unfold Oper.looksAt;refine List.mem_append.2 (.inl (List.mem_filterMap.2 ⟨y,Array.mem_toList_iff.2 i,by rw[f]⟩))
def CA:dH->dH->Bool
 | .P,_=>true
 | .L,.W=>false
 | .L,_=>true
 | .R,.W=>false
 | .R,.A=>false
 | .R,_=>true
 | _,_=>false
structure Ik (P:Program) (S:iK) (F:Fs) (ops:Array Oper) (o:Oper) (e:Env) (h:Heap) (s:Slot) (bx:Bx):Prop where
 run:(gd ops o e=some true/\∀(h':Heap) (K:Slot->Bx->Heap->Prop) (E:List PanicEntry->Heap->Prop),(cls F o=.R->h.le h')->K s bx h'->exec P S F true o e h' K E) \/
  (gd ops o e=some false/\s=.v undef/\bx=none)
 fb:∀ u cs,bx=some (u,cs)->o.dst=some u/\e.b u=none
 fs:∀ u,s.refs u->(∃ y∈o.op.operands,(e.get y).refs u)\/∃ cs,bx=some (u,cs)
theorem Ik.one {f:Array Oper} {s:Slot} {c:Bx} (st:Ik P S F f o e h s c) {K:Env->Heap->Prop} (d:K (e.put o.dst s c) h):one P S F f o e h K E:=by
 unfold Vc.one;rcases st.run with ⟨b,g⟩|⟨b,rfl,rfl⟩
 ·simp only[b];exact g h _ _ (λ_=>Heap.le_refl h) d
 simp only[b];exact d
theorem front {x:Array Oper} {K:Env->Heap->Prop} {i:Nat} {d:Oper} (hi:x[i]? = some d) (Yc:cls F d=.P\/cls F d=.L\/cls F d=.R) {s:Slot} {H:Bx} :
  ∀(k:Nat) (G:Array Bool) (e:Env) (h:Heap),WF e ->
   (∀ p f,x[p]? = some f->p≠i->G.getD p true=false->(∀ m∈f.after,Region.binds .any m=true->m.on≠i)->d.apart x f=true/\CA (cls F d) (cls F f)=true) ->
   i∈Region.ready .any x G->Ik P S F x d e h s H ->
   tA P S F x K E k (G.setIfInBounds i true) (e.put d.dst s H) h->tA P S F x K E (k+1) G e h:=by
 intro k;induction k with
 | zero =>
  intro G e h V EX R st X;refine⟨λh0=>(by rw[h0]at R;cases R),λp hj=>?_⟩;by_cases L:p=i
  ·subst L;exact⟨d,hi,st.one X⟩
  have:=ready_mono hj L;rw[X.1]at this;cases this
 | succ k ih =>
  intro G e h V EX R st X;refine⟨λh0=>(by rw[h0]at R;cases R),λp hj=>?_⟩;by_cases L:p=i
  ·subst L;exact⟨d,hi,st.one X⟩
  obtain⟨f,Rn,b⟩:=X.2 p (ready_mono hj L);refine⟨f,Rn,?_⟩;obtain⟨N8,oj',N9,vO⟩:=mem_ready.1 hj;rw[Rn]at N9;cases N9
  have Ro:∀ m∈f.after,Region.binds .any m=true->m.on≠i:=λm hd B I=>by
   have b:=vO m hd B;have h0:=(mem_ready.1 R).1;rw[I]at b;rcases Nat.lt_or_ge i G.size with v|v
   ·simp[v]at h0 b;rw[h0]at b;cases b
   simp[Array.getElem?_eq_none v]at b
  obtain⟨Yd,Q⟩:=EX p f Rn L N8 Ro;obtain⟨a1,a2,a3⟩:=Oper.apart_spec Yd;have xG:∀ y∈f.op.operands,(e.put d.dst s H).get y=e.get y:=λy j=>Cz (y6 a1 j);have Oa:∀(m:Option Nat) (s':Slot) (We:Bx),m=f.dst->∀ y∈d.op.operands,(e.put m s' We).get y=e.get y:=λm s' We hd y j=>Cz (by rw[hd];exact y6 a3 j);have Lu:∀ W ok,x[W]? = some ok->W≠i->(G.setIfInBounds p true).getD W true=false->(∀ m∈ok.after,Region.binds .any m=true->m.on≠i)->d.apart x ok=true/\CA (cls F d) (cls F ok)=true:=λW ok hk Ye Wf Qr=>by
   refine EX W ok hk Ye ?_ Qr;by_cases Nr:p=W
   ·subst Nr;exact N8
   rw[getD_set_ne true Nr]at Wf;exact Wf
  have step:∀ M z v,tA P S F x K E k ((G.setIfInBounds i true).setIfInBounds p true) ((e.put d.dst s H).put f.dst M z) v->tw F f (e.put d.dst s H) h M z v ->
    tA P S F x K E (k+1) (G.setIfInBounds p true) (e.put f.dst M z) v:=by
   intro M z v hA hR;have Wg:∀ u q,z=some (u,q)->(f.dst=some u/\e.b u=none)\/((e.b u).isSome/\cls F f=.W):=by
    intro u q c;rcases hR.fb u q c with ⟨b,A⟩|⟨b,y,j,A⟩
    ·refine .inl ⟨b,?_⟩;cases H with
     | none=>exact A
     | some uc =>
      obtain⟨N,J⟩:=uc;by_cases g:u=N
      ·subst g;exact(st.fb u J rfl).2
      rw[y5 (λYf Rp Oc=>by simp only[Option.some.injEq,Prod.mk.injEq]at Oc;rw[<-Oc.1];exact g)]at A;exact A
    rw[xG y j]at A;exact .inr ⟨V.get A,b⟩
   have Od:∀ u q,z=some (u,q)->∀ t,d.dst=some t->e.b t=none->t≠u:=by
    intro u q c t T B I;subst I;rcases Wg _ _ c with ⟨b,_⟩|⟨b,_⟩
    ·exact a2 t T b
    rw[B]at b;cases b
   have Lm:WF (e.put f.dst M z):=A1 V λu g=>by
    rcases hR.fs u g with ⟨y,j,Lv⟩|c
    ·rw[xG y j]at Lv;exact .inl (V.get Lv)
    exact .inr c
   have Dw:J2 F d e (e.put f.dst M z):={
    get:=Oa _ _ _ rfl
    box:=by
     rcases Yc with C|C
     ·exact .inl C
     right
     intro y j u g;refine y5 λN J c I=>?_;subst I;rcases Wg _ _ c with ⟨_,A⟩|⟨_,A⟩
     ·have:=V.get g;rw[A]at this;cases this
     rw[A]at Q;rcases C with C|C<;>rw[C]at Q<;>cases Q
    dst:=λt T B=>by rw[y5 (λN J c=>Od N J c t T B)];exact B}
   refine ih _ _ _ Lm Lu (ready_mono R (Ne.symm L)) ?_ ?_
   ·refine⟨?_,λu q c=>⟨(st.fb u q c).1,Dw.dst u (st.fb u q c).1 (st.fb u q c).2⟩,λu g=>?_⟩
    ·rcases st.run with ⟨Y,g2⟩|⟨Y,g2,g3⟩
     ·refine .inl ⟨by rw[A2 a3];exact Y,λYg K' E' hle hk=>?_⟩;have:=g2 Yg K' E' (λC=>?_) hk
      ·exact kP Dw this (λs H v hK _=>hK)
      refine Heap.le_trans (hR.le ?_ ?_) (hle C)
      ·intro Lw;rw[C,Lw]at Q;cases Q
      intro Lw;rw[C,Lw]at Q;cases Q
     exact .inr ⟨by rw[A2 a3];exact Y,g2,g3⟩
    rcases st.fs u g with ⟨y,j,Lv⟩|c
    ·exact .inl ⟨y,j,by rw[Dw.get y j];exact Lv⟩
    exact .inr c
   rw[Array.setIfInBounds_comm _ _ L,put_comm (λt T=>λc=>a2 t c T) (λu q g N J Yh I=>?_)]
   ·exact hA
   subst I;obtain⟨Y,g2⟩:=st.fb _ _ Yh;exact Od _ _ g _ Y g2 rfl
  unfold one at b ⊢;rw[A2 a1]at b;split at b
  ·rename_i hg;simp only[hg];refine kP (o:=f) (e:=e.put d.dst s H) ⟨λy j=>(xG y j).symm,?_,?_⟩ b (λM z v hA hR=>step M z v hA hR)
   ·right
    intro y j u g;rw[xG y j]at g;refine(y5 λN J c I=>?_).symm;subst I;have:=V.get g;rw[(st.fb _ _ c).2]at this;cases this
   intro t T B;cases H with
   | none=>exact B
   | some uc =>
    obtain⟨N,J⟩:=uc;by_cases g:t=N
    ·subst g;exact(st.fb t J rfl).2
    rw[y5 (λYf Rp Oc=>by simp only[Option.some.injEq,Prod.mk.injEq]at Oc;rw[<-Oc.1];exact g)]at B;exact B
  ·rename_i hg;simp only[hg];exact step _ _ _ b tw.plain
  exact b.elim
def y7 (F:Fs) (b:Array Oper):List Nat->Array Bool->Bool
 | [],listed=>(Region.ready .any b listed).isEmpty
 | i::r,listed=>(Region.ready .any b listed).contains i&&(match b[i]? with
  | none=>false
  | some c=>((match cls F c with | .P=>true | .L=>true | .R=>true|_=>false)&&(List.range b.size).all λj=>j==i||listed.getD j true||match b[j]? with
    | some d=>(d.after.any λf=>Region.binds .any f&&f.on==i)||(c.apart b d&&CA (cls F c) (cls F d))
    | none=>true)||Region.ready .any b listed == [i])&&y7 F b r (listed.setIfInBounds i true)
theorem EY {f:Array Oper} {K:Env->Heap->Prop} (d:WF e) (b:one P S F f o e h K E):one P S F f o e h (λe' h'=>WF e'/\K e' h') E:=by
 unfold one at b ⊢;split at b
 ·refine kP (e:=e) ⟨λ_ _=>rfl,.inr λ_ _ _ _=>rfl,λ_ _ h=>h⟩ b (λs p h' g i=>⟨A1 d λu c=>?_,g⟩);rcases i.fs u c with ⟨y,q,m⟩|j
  ·exact .inl (d.get m)
  exact .inr j
 ·exact⟨A1 d λu c=>c.elim,b⟩
 exact b.elim
theorem qg {f:Array Oper} {K c:Env->Heap->Prop} (b:one P S F f o e h K E) (d:∀ e' h',K e' h'->c e' h'):one P S F f o e h c E:=by
 unfold one at b ⊢;split at b
 ·exact kP (e:=e) ⟨λ_ _=>rfl,.inr λ_ _ _ _=>rfl,λ_ _ h=>h⟩ b (λs i h' g _=>d _ _ g)
 ·exact d _ _ b
 exact b.elim
theorem EZ {H:Array Oper} {K:Env->Heap->Prop} (d:cls F o=.P\/cls F o=.L\/cls F o=.R) (u:one P S F H o e h K E):∃ s f,Ik P S F H o e h s f/\K (e.put o.dst s f) h:=by
 unfold one at u;split at u
 ·rename_i x;have p:=kP (e:=e) ⟨λ_ _=>rfl,.inr λ_ _ _ _=>rfl,λ_ _ h=>h⟩ u (λs f c N A=>(⟨N,A⟩:K (e.put o.dst s f) c/\tw F o e h s f c));have C:∀ s f,tw F o e h s f h->∀ v y,f=some (v,y)->o.dst=some v/\e.b v=none:=by
   intro s f A v y q;rcases A.fb v y q with g|⟨g,_⟩
   ·exact g
   rcases d with d|d|d<;>rw[d]at g<;>cases g
  by_cases b:cls F o=.R
  ·have Q:∃ s,(K (e.put o.dst s none) h/\tw F o e h s none h)/\∀(c:Heap) (i:Slot->Bx->Heap->Prop) (m:List PanicEntry->Heap->Prop),h.le c->i s none c->exec P S F true o e c i m:=by
    obtain⟨M,R,ty,pos,V,guard⟩:=o;cases R with
    | load B T =>
     have G:EG F.LL M=false:=by
      simp only[cls]at b;split at b
      ·cases b
      assumption
     simp only[exec]at p ⊢;split at p
     ·rename_i ti X;simp only[G]at p;obtain⟨s,g,j⟩:=yV p;exact⟨s,g,λc i m hle t=>by simp only[G];exact j c i hle t⟩
     exact p.elim
    | call J =>
     obtain⟨L,args,ts⟩:=J;cases L with
     | value W=>simp only[cls]at b;split at b<;>cases b
     | invoke r Y=>cases b
     | builtin I=>cases I<;>cases b
    | alloc B=>simp only[cls]at b;split at b<;>cases b
    | box B T=>simp only[cls]at b;split at b<;>cases b
    | buildSlice B k ps=>simp only[cls]at b;split at b<;>cases b
    | _=>cases b
   obtain⟨s,⟨g,j⟩,z⟩:=Q;exact⟨s,none,⟨.inl ⟨x,λc i m hle t=>z c i m (hle b) t⟩,C _ _ j,j.fs⟩,g⟩
  obtain⟨s,f,⟨g,j⟩,z⟩:=EV (by
   rcases d with d|d|d
   ·exact .inl d
   ·exact .inr d
   exact absurd d b) p
  exact⟨s,f,⟨.inl ⟨x,λc i m _ t=>z c i m t⟩,C _ _ j,j.fs⟩,g⟩
 ·rename_i x;exact⟨_,_,⟨.inr ⟨x,rfl,rfl⟩,(λ_ _ q=>by cases q),λ_ q=>q.elim⟩,u⟩
 exact u.elim
def CB (F:Fs) (b:Array Oper) (i:Nat) (c:Array Bool):Bool :=
 (Region.ready .any b c).contains i&&(match b[i]? with
  | none=>false
  | some d=>((match cls F d with | .P=>true | .L=>true | .R=>true|_=>false)&&(List.range b.size).all λj=>j==i||c.getD j true||match b[j]? with
    | some f=>(f.after.any λg=>Region.binds .any g&&g.on==i)||(d.apart b f&&CA (cls F d) (cls F f))
    | none=>true)||Region.ready .any b c == [i])
theorem uk {c:Array Oper} {K:Env->Heap->Prop} {i:Nat} {f:Oper} {k:Nat} {m:Array Bool} {e:Env} {h:Heap} (v:CB F c i m=true) (q:c[i]? = some f) (y:WF e)
  (j:p9 P S F true c.toList f e h (λe' h'=>WF e'->tA P S F c K E k (m.setIfInBounds i true) e' h') E):tA P S F c K E (k+1) m e h:=by
 simp only[CB,Bool.and_eq_true,q]at v;obtain⟨z,d⟩:=v;have L:i∈Region.ready .any c m:=by simpa using z
 have j:=EY y (iw.1 j);have j:=qg j (λe' h' u=>u.2 u.1);simp only[Bool.or_eq_true]at d;rcases d with d|d
 ·simp only[Bool.and_eq_true]at d;obtain⟨A,B⟩:=d;have t:cls F f=.P\/cls F f=.L\/cls F f=.R:=by
   revert A
   cases cls F f<;>simp
  obtain⟨R,N,st,C⟩:=EZ t j;refine front q t k m e h y (λs Q g I M J=>?_) L st C;have H:s < c.size:=(Array.getElem?_eq_some_iff.1 g).1;have:=List.all_eq_true.1 B s (by simpa using H);simp only[g,Bool.or_eq_true,M]at this;rcases this with (b|b)|b
  ·exact absurd (by simpa using b) I
  ·cases b
  rcases b with b|b
  ·exfalso;obtain⟨k,G,p⟩:=Array.any_eq_true.1 b;simp only[Bool.and_eq_true]at p;exact J _ (Array.getElem_mem G) p.1 (by simpa using p.2)
  simpa using b
 have x:Region.ready .any c m=[i]:=by simpa using d
 refine⟨λh0=>(by rw[x]at h0;cases h0),λs g=>?_⟩;rw[x]at g;simp only[List.mem_singleton]at g;subst g;exact⟨f,q,j⟩
theorem um {c:Array Oper} {K:Env->Heap->Prop}:∀(p:List Nat) (b:Array Bool) (e:Env) (h:Heap),y7 F c p b=true->WF e->Ig P S F true c.toList K E p e h->tA P S F c K E p.length b e h
 | [],b,e,h,hp,_,hx=>⟨by simpa [y7]using hp,hx⟩
 | i::r,b,e,h,hp,hw,hx=>by
  simp only[y7,Bool.and_eq_true]at hp;obtain⟨⟨j,m⟩,q⟩:=hp;simp only[Ig,rO,Array.getElem?_toList]at hx;cases d:c[i]? with
  | none=>rw[d]at hx;exact hx.elim
  | some u =>
   simp only[d]at hx;refine uk (by unfold CB;rw[j];exact m) d hw (iw.2 (qg (iw.1 hx) λf g s t=>um r (b.setIfInBounds i true) f g q t s))
def PT.m6:PT->List Nat
 | .alt i _ r=>i::r.m6
 | _=>[]
def kQ (F:Fs) (b:Array Oper):PT->Bool->Nat->Array Bool->Bool
 | .nil,c,k,listed=>!c&&k==0&&(Region.ready .any b listed).isEmpty
 | .eJ,c,_,_=>c
 | .one i r,c,k,listed=>!c&&(match k with
  | 0=>false
  | k+1=>CB F b i listed&&kQ F b r false k (listed.setIfInBounds i true))
 | .alt i t r,c,k,listed=>(match k with
  | 0=>false
  | k+1=>(c||(!(Region.ready .any b listed).isEmpty&&(Region.ready .any b listed).all λj=>(i::r.m6).contains j))&&kQ F b t false k (listed.setIfInBounds i true)&&kQ F b r true (k+1) listed)
theorem lZ {f:Array Oper} {K:Env->Heap->Prop}:∀(p:PT),
  (∀(k:Nat) (d:Array Bool) (e:Env) (h:Heap),kQ F f p false k d=true->WF e->qb P S F f.toList K E p e h->tA P S F f K E k d e h) /\
  (∀(k:Nat) (d:Array Bool) (e:Env) (h:Heap),kQ F f p true (k+1) d=true->WF e->qb P S F f.toList K E p e h->∀ i∈p.m6,∃ o,f[i]? = some o/\one P S F f o e h (λe' h'=>tA P S F f K E k (d.setIfInBounds i true) e' h') E)
 | .nil=>by
  refine⟨λk d e h c g b=>?_,λk d e h c g b i j=>?_⟩
  ·simp only[kQ,Bool.and_eq_true]at c;have x:k=0:=by simpa using c.1.2
   subst x;exact⟨by simpa using c.2,b⟩
  simp[PT.m6]at j
 | .eJ=>by
  refine⟨λk d e h c g b=>?_,λk d e h c g b i j=>?_⟩
  ·simp[kQ]at c
  simp[PT.m6]at j
 | .one i r=>by
  refine⟨λk d e h c g b=>?_,λk d e h c g b m q=>?_⟩
  ·simp only[kQ,Bool.and_eq_true]at c;cases k with
   | zero=>simp at c
   | succ k =>
    simp only[Bool.and_eq_true]at c;obtain⟨_,u,v⟩:=c;simp only[qb,rO,Array.getElem?_toList]at b;cases j:f[i]? with
    | none=>rw[j]at b;exact b.elim
    | some A =>
     simp only[j]at b;exact uk u j g (iw.2 (qg (iw.1 b) λe' h' s G=>(lZ r).1 k _ e' h' v G s))
  simp[PT.m6]at q
 | .alt i t r=>by
  have z:∀(y:Bool) (k:Nat) (d:Array Bool) (e:Env) (h:Heap),kQ F f (.alt i t r) y (k+1) d=true->WF e->qb P S F f.toList K E (.alt i t r) e h->∀ m∈(PT.alt i t r).m6,∃ o,f[m]? = some o/\one P S F f o e h (λe' h'=>tA P S F f K E k (d.setIfInBounds m true) e' h') E:=by
   intro y k d e h c g b m q;simp only[kQ,Bool.and_eq_true]at c;obtain⟨⟨_,B⟩,v⟩:=c;simp only[qb,rO,Array.getElem?_toList]at b;simp only[PT.m6,List.mem_cons]at q;rcases q with rfl|q
   ·have b:=b.1;cases j:f[m]? with
    | none=>rw[j]at b;exact b.elim
    | some A =>
     simp only[j]at b;exact⟨A,rfl,qg (EY g (iw.1 b)) λe' h' s=>(lZ t).1 k _ e' h' B s.1 s.2⟩
   exact(lZ r).2 k d e h v g b.2 m q
  refine⟨λk d e h c g b=>?_,λk d e h c g b=>z true k d e h c g b⟩;cases k with
  | zero=>simp[kQ]at c
  | succ k =>
   have x:=z false k d e h c g b;simp only[kQ,Bool.and_eq_true,Bool.false_or]at c;obtain⟨⟨⟨h0,u⟩,_⟩,_⟩:=c;refine⟨λC=>(by rw[C]at h0;simp at h0),λm q=>x m ?_⟩;have:=List.all_eq_true.1 u m q;simpa [PT.m6]using this
def Code.gV (F:Fs):Code->Bool
 | .region id b f=>match f with
  | true=>match AP id F.bX with
   | some p=>p.length==b.size&&y7 F b p (Array.replicate b.size false)
   | none=>match AQ id F.trees with
    | some t=>kQ F b t false b.size (Array.replicate b.size false)
    | none=>true
  | false=>true
 | .seq a d=>Code.gV F a&&Code.gV F d
 | .cond _ a d=>Code.gV F a&&Code.gV F d
 | .block _ c=>Code.gV F c
 | .loop c=>Code.gV F c
 | .scope c=>Code.gV F c
 | _=>true
theorem mb {n:Nat} (q:dg P S):∀ c:Code,Code.iM n c=true->Code.gV F c=true->Code.iF P S F n c:=by
 intro c;induction c with
 | region id z v =>
  intro d b;cases v with
  | false=>trivial
  | true =>
   intro D K E Q h0 w0 β e h a w f r s p;unfold drawn at f;simp only[Code.gV]at b;split at f
   ·rename_i t i;simp only[i,Bool.and_eq_true]at b;have x:t.length=z.size:=by simpa using b.1
    have:=um t _ e h b.2 r.wf f;rw[x]at this;exact pq q (o9 d) s p _ _ _ _ _ _ _ this r
   rename_i i;simp only[i]at b;split at f
   ·rename_i A y;simp only[y]at b;exact pq q (o9 d) s p _ _ _ _ _ _ _ ((lZ A).1 _ _ e h b r.wf f) r
   exact f.elim
 | seq a u j m =>
  intro d b;simp only[Code.iM,Code.gV,Bool.and_eq_true]at d b;exact⟨j d.1 b.1,m d.2 b.2⟩
 | cond c a u j m =>
  intro d b;simp only[Code.iM,Code.gV,Bool.and_eq_true]at d b;exact⟨j d.1 b.1,m d.2 b.2⟩
 | block id c g=>exact λd b=>g d b
 | loop c g=>exact λd b=>g d b
 | scope c g=>exact λd b=>g d b
 | _=>intro _ _;trivial
def gH (F:Fs) (fn:Func) (k:Nat):Bool:=match fn.body with
 | some c=>Nat.ble k fn.ntmps&&Code.iM fn.ntmps c&&Code.gV F c
 | none=>false
def Goal (P:Program) (S:iK) (F:Fs) (fn:Func) (args:List Value) (h:Heap) (R:Out->Heap->Prop):Prop:=match fn.body with
 | some c=>den P S F c (Fin S fn.results.toList R) (iN args) h
 | none=>False
theorem calls {S:iK} (g:dg P S) {f:FuncId} {fn:Func} (j:P.funcs[f]? = some fn) (F:Fs) {args:List Value} (b:gH F fn args.length=true) {h:Heap} {R:Out->Heap->Prop} (d:Goal P S F fn args h R):cF P f args h R:=by
 unfold gH at b;unfold Goal at d;cases c:fn.body with
 | none=>rw[c]at b;cases b
 | some i =>
  simp only[c,Bool.and_eq_true]at b d;exact xE g F j c (Nat.le_of_ble_eq_true b.1.1) b.1.2 (mb g i b.1.2 b.2) d
end Go.Vc
