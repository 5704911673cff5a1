/- Part 1 of the lemmas on which the law rests: what functions of the program and of the reference do; no conditions but those that each lemma states. -/
import Derived.Calls
import Derived.KernelRfl
import Derived.Laws.Sem
import Derived.Deep.Quiet
import Derived.Scope
set_option linter.unusedSimpArgs false
set_option linter.unusedVariables false
namespace Go.Vc
set_option linter.constructorNameAsVariable false
abbrev Heap:=Nat->Option Obj
def Heap.set (h:Heap) (b:Nat) (o:Obj):Heap:=λc=>if c=b then some o else h c
def Heap.le (h h':Heap):Prop:=∀ b o,h b=some o->h' b=some o
inductive Slot where
 | v (x:Value)
 | l (t off:Nat)
 | r (t len:Nat)
 | x
structure Env where
 s:Nat->Slot
 b:Nat->Option (List Value)
def Env.get (e:Env):Operand->Slot
 | .tmp t=>e.s t
 | .const v=>.v v
 | .global g=>.v (.pointer (some ⟨g,0,none⟩))
 | .func f=>.v (.func (.func f) #[] #[])
abbrev Bx:=Option (Nat × List Value)
def Env.put (e:Env) (d:Option Nat) (x:Slot) (bx:Bx):Env :=
 ⟨match d with|none=>e.s|some d=>λt=>if t=d then x else e.s t,
  match bx with|none=>e.b|some (d,cs)=>λt=>if t=d then some cs else e.b t⟩
inductive TD where
 | YY|num (k:IntKind)|Se|str (fs:List (Nat × TypeId))|arr (n:Nat) (e:TypeId)|sl (e:TypeId)|ptr (e:TypeId)|Sf|dj
structure TI where
 size:Nat
 bytes:Nat
 zero:List Value
 agg:Bool
 d:TD
inductive Tree (α:Type) where
 | leaf
 | node (l:Tree α) (k:Nat) (v:α) (r:Tree α)
def Tree.find {α:Type} (i:Nat):Tree α->Option α
 | .leaf=>none
 | .node l k v r=>match Nat.beq i k with
  | true=>some v
  | false=>match Nat.blt i k with
   | true=>l.find i
   | false=>r.find i
structure nH where
 ty:Tree TI
 lo:Nat
 nf:Nat
inductive PT where
 | nil
 | fO
 | one (i:Nat) (r:PT)
 | alt (i:Nat) (t r:PT)
structure Fs where
 L:List Nat:=[]
 LL:List Nat:=[]
 cr:List (Nat × List Nat):=[]
 trees:List (Nat × PT):=[]
 M:List Nat:=[]
inductive Out where
 | ret (v:Value)
 | lE (c:List PanicEntry)
inductive Ex where
 | normal
 | exit (id:Nat)
 | ret
 | lE (c:List PanicEntry)
structure cP (h:Heap) (w:World) (h':Heap) (w':World):Prop where
 view:∀ b o,h' b=some o->w'.heap[b]? = some o
 aG:∀ b,b < w.heap.size->h b=none->w'.heap[b]? = w.heap[b]?
 xd:∀ b,h' b≠none->h b≠none\/w.heap.size<=b
 size:w.heap.size<=w'.heap.size
 fz:∀(b:Nat) (cs:Array Value) (t:TypeId) (z:Nat × Nat),w'.heap[b]? = some (Obj.cells cs t z)->z=(0,0)\/w.heap[b]? = some (Obj.cells cs t z)
 out:w'.os=w.os/\w'.tape=w.tape/\w'.output=w.output
def cH (P:Program) (f:FuncId) (args:List Value) (h:Heap) (R:Out->Heap->Prop):Prop :=
 ∀ w:World,(∀ b o,h b=some o->w.heap[b]? = some o) ->
  Calls P f args.toArray w λe w'=>∃ h':Heap,cP h w h' w' /\
   match e with
   | .returned v=>R (.ret v) h'
   | .panicked c=>R (.lE c) h'
   | .outgrown=>False
def xy (P:Program) (f:FuncId) (args:List Value) (h:Heap) (K:Value->Heap->Prop) (E:List PanicEntry->Heap->Prop):Prop :=
 cH P f args h λo h'=>match o with | .ret v=>K v h' | .lE c=>E c h'
structure Call (P:Program) (f:FuncId) (args:List Value) (h:Heap) (K:Value->Heap->Prop) (E:List PanicEntry->Heap->Prop):Prop where
 run:xy P f args h K E
theorem tE:Call=xy:=by
 funext _ _ _ _ _ _;exact propext ⟨λh=>h.run,λh=>⟨h⟩⟩
def vc (P:Program) (f:FuncId) (args:List Value) (h:Heap) (K:Value->Heap->Prop) (E:List PanicEntry->Heap->Prop):Prop :=
 cH P f args h λo h'=>match o with | .ret v=>h.le h'/\K v h' | .lE c=>E c h'
structure jA (P:Program) (f:FuncId) (args:List Value) (h:Heap) (K:Value->Heap->Prop) (E:List PanicEntry->Heap->Prop):Prop where
 run:vc P f args h K E
theorem qR:jA=vc:=by
 funext _ _ _ _ _ _;exact propext ⟨λh=>h.run,λh=>⟨h⟩⟩
def Yc (p K:Prop):Prop:=p/\K
structure Ob (p K:Prop):Prop where
 run:Yc p K
theorem Is:Ob=Yc:=by
 funext _ _;exact propext ⟨λh=>h.run,λh=>⟨h⟩⟩
def YZ (k:IntKind) (x:Int) (K:Int->Prop):Prop:=K (k.wrap x)
structure Ar (k:IntKind) (x:Int) (K:Int->Prop):Prop where
 run:YZ k x K
theorem Ph:Ar=YZ:=by
 funext _ _ _;exact propext ⟨λh=>h.run,λh=>⟨h⟩⟩
def Av (h:Heap) (cs:List Value) (t:TypeId) (K:Nat->Heap->Prop):Prop :=
 ∀ b,h b=none->K b (h.set b (.cells cs.toArray t))
structure Ig (h:Heap) (cs:List Value) (t:TypeId) (K:Nat->Heap->Prop):Prop where
 run:Av h cs t K
theorem oF:Ig=Av:=by
 funext _ _ _ _;exact propext ⟨λh=>h.run,λh=>⟨h⟩⟩
def rd (h:Heap) (b off:Nat):Option Value:=match h b with
 | some (.cells c _ _)=>c[off]?
 | _=>none
def eG (h:Heap) (b:Nat):Nat->Nat->Option (List Value)
 | _,0=>some []
 | off,n+1=>match rd h b off,eG h b (off+1) n with
  | some v,some r=>some (v::r)
  | _,_=>none
def Pj (h:Heap) (b off:Nat) (K:Value->Prop):Prop:=∃ v,rd h b off=some v/\K v
structure Ld (h:Heap) (b off:Nat) (K:Value->Prop):Prop where
 run:Pj h b off K
theorem xz:Ld=Pj:=by
 funext _ _ _ _;exact propext ⟨λh=>h.run,λh=>⟨h⟩⟩
def D7 (h:Heap) (b off n:Nat) (K:List Value->Prop):Prop:=∃ vs,eG h b off n=some vs/\K vs
structure Y0 (h:Heap) (b off n:Nat) (K:List Value->Prop):Prop where
 run:D7 h b off n K
theorem tF:Y0=D7:=by
 funext _ _ _ _ _;exact propext ⟨λh=>h.run,λh=>⟨h⟩⟩
def Cg (p:Option Addr) (K:Nat->Nat->Prop):Prop:=∃ b off,p=some ⟨b,off,none⟩/\K b off
structure Ptr (p:Option Addr) (K:Nat->Nat->Prop):Prop where
 run:Cg p K
theorem qS:Ptr=Cg:=by
 funext _ _;exact propext ⟨λh=>h.run,λh=>⟨h⟩⟩
def D8 (h:Heap) (p:Option Addr) (k:Nat) (K:List Value->Prop):Prop:=((p=none\/k=0)/\K [])\/∃ b off vs,p=some ⟨b,off,none⟩/\eG h b off k=some vs/\K vs
structure RK (h:Heap) (p:Option Addr) (k:Nat) (K:List Value->Prop):Prop where
 run:D8 h p k K
theorem tG:RK=D8:=by
 funext _ _ _ _;exact propext ⟨λh=>h.run,λh=>⟨h⟩⟩
def Ly:List Value->Nat->Value->List Value
 | [],_,_=>[]
 | _::r,0,v=>v::r
 | a::r,n+1,v=>a::Ly r n v
def ep (cs:List Value) (off:Nat):List Value->List Value
 | []=>cs
 | v::r=>ep (Ly cs off v) (off+1) r
def Sg (h:Heap) (b off:Nat) (vs:List Value) (K:Heap->Prop):Prop :=
 ∃ cs t,h b=some (.cells cs t (0,0))/\off+vs.length<=cs.size/\K (h.set b (.cells (ep cs.toList off vs).toArray t (0,0)))
structure St (h:Heap) (b off:Nat) (vs:List Value) (K:Heap->Prop):Prop where
 run:Sg h b off vs K
theorem D9:St=Sg:=by
 funext _ _ _ _ _;exact propext ⟨λh=>h.run,λh=>⟨h⟩⟩
def take:Nat->List Value->Option (List Value)
 | 0,_=>some []
 | _+1,[]=>none
 | n+1,a::r=>match take n r with
  | some t=>some (a::t)
  | none=>none
def drop:Nat->List Value->List Value
 | 0,l=>l
 | _+1,[]=>[]
 | n+1,_::r=>drop n r
def kE:List Value->(List Value->Prop)->Prop
 | [],K=>K []
 | a::r,K=>kE r λr'=>K (a::r')
def oG (place:Nat->Option Nat) (cs:List Value):List (Nat × List Value)->Option (List Value)
 | []=>some cs
 | (i,vs)::r=>match place i with
  | some off=>match (off+vs.length).ble cs.length with
   | true=>oG place (ep cs off vs) r
   | false=>none
  | none=>none
def zo (P:Program) (o:Oper) (e:Env) (h:Heap) (K:Value->Heap->Prop):Prop :=
 (∀ x∈o.op.operands,∃ v,e.get x=.v v)/\∀ ρ:Operand->Value,(∀ x∈o.op.operands,e.get x=.v (ρ x))->∀ w:World,(∀ b o,h b=some o->w.heap[b]? = some o) ->
  ∃ v w' h',((execOp ρ o).run P w=.ok (.value v) w'\/(execOp ρ o).run P w=.ok .skip w'/\v=undef)/\cP h w h' w'/\K v h'
structure Raw (P:Program) (o:Oper) (e:Env) (h:Heap) (K:Value->Heap->Prop):Prop where
 run:zo P o e h K
theorem mV:Raw=zo:=by
 funext _ _ _ _ _;exact propext ⟨λh=>h.run,λh=>⟨h⟩⟩
def xA (P:Program) (o:Oper) (e:Env) (K:Value->Prop):Prop :=
 (∀ x∈o.op.operands,∃ v,e.get x=.v v)/\∃ v,K v/\∀ ρ:Operand->Value,(∀ x∈o.op.operands,e.get x=.v (ρ x))->∀ w:World,(execOp ρ o).run P w=.ok (.value v) w
structure Md (P:Program) (o:Oper) (e:Env) (K:Value->Prop):Prop where
 run:xA P o e K
theorem qe:Md=xA:=by
 funext _ _ _ _;exact propext ⟨λh=>h.run,λh=>⟨h⟩⟩
def zu (P:Program) (o:Oper) (e:Env) (h:Heap) (x:Bool) (K:Slot->Bx->Heap->Prop):Prop:=match x with
 | true=>Md P o e λv=>K (.v v) none h
 | false=>Raw P o e h λv h'=>K (.v v) none h'
def lP:Value->Bool
 | .agg _=>false
 | .tuple _=>false
 | _=>true
def dG:List Value->Bool
 | []=>true
 | v::r=>match lP v with
  | true=>dG r
  | false=>false
def Aw (bytes size:Nat) (zero:List Value) (elem:TypeId) (h:Heap) (a:Option Addr) (n cap m:Nat) (vs:List Value) (K:Value->Heap->Prop):Prop :=
 (n+m<=cap->dG vs=true/\match a with
  | some ⟨b,off,none⟩=>∃ cs t,h b=some (.cells cs t (0,0))/\off+n*size+vs.length<=cs.size /\
    K (.slice a (n+m) cap) (h.set b (.cells (ep cs.toList (off+n*size) vs).toArray t (0,0)))
  | some _=>False
  | none=>vs=[]/\K (.slice none (n+m) cap) h) /\
 (cap < n+m->(n+m)*bytes<=2 ^ 44/\n+m<=2 ^ 44/\∃ ic,(match a with
  | some ⟨b,off,none⟩=>eG h b off (n*size)=some ic
  | some _=>False
  | none=>n=0/\ic=[]) /\
  ∀ b c,h b=none->n+m<=c->K (.slice (some ⟨b,0,none⟩) (n+m) c) (h.set b (.cells (ic++vs++(List.replicate (c-(n+m)) zero).flatten).toArray elem)))
structure App (bytes size:Nat) (zero:List Value) (elem:TypeId) (h:Heap) (a:Option Addr) (n cap m:Nat) (vs:List Value) (K:Value->Heap->Prop):Prop where
 run:Aw bytes size zero elem h a n cap m vs K
theorem oH:App=Aw:=by
 funext _ _ _ _ _ _ _ _ _ _ _;exact propext ⟨λh=>h.run,λh=>⟨h⟩⟩
def ve (ls:List Nat) (vs:List Slot) (t:Nat):Slot :=
 match ls,vs with
 | i::ls,v::vs=>if t=i then v else ve ls vs t
 | _,_=>.x
def FH (bs:List Nat) (cs:List (Option (List Value))) (t:Nat):Option (List Value) :=
 match bs,cs with
 | i::bs,c::cs=>if t=i then c else FH bs cs t
 | _,_=>none
def Slot.clean (bs:List Nat):Slot->Slot
 | .l t off=>if bs.contains t then .l t off else .x
 | .r t n=>if bs.contains t then .r t n else .x
 | s=>s
def xB (ls bs:List Nat) (vs:List Slot) (cs:List (Option (List Value))):Env:=⟨λt=>(ve ls vs t).clean bs,FH bs cs⟩
def Yd (body:(Ex->Env->Heap->Prop)->Env->Heap->Prop) (K:Ex->Env->Heap->Prop) (e:Env) (h:Heap):Prop :=
 ∃(ls bs:List Nat) (Inv:Nat->List Slot->List (Option (List Value))->Heap->Prop),(∃ n,Inv n (ls.map e.s) (bs.map e.b) h)/\∀ n vs cs h,Inv n vs cs h ->
  body (λx e' h'=>match x with | .normal=>∃ m,m < n/\Inv m (ls.map e'.s) (bs.map e'.b) h' | .exit i=>K (.exit i) e' h' | .ret=>K .ret e' h' | .lE c=>K (.lE c) e' h') (xB ls bs vs cs) h
structure Lp (body:(Ex->Env->Heap->Prop)->Env->Heap->Prop) (K:Ex->Env->Heap->Prop) (e:Env) (h:Heap):Prop where
 run:Yd body K e h
theorem It:Lp=Yd:=by
 funext _ _ _ _;exact propext ⟨λh=>h.run,λh=>⟨h⟩⟩
def eL (b:Bool) (t f:Prop):Prop:=@Bool.rec (λ_=>Prop) f t b
def xC (e:Env) (t off n:Nat):Option (List Value):=match e.b t with
 | some cs=>take n (drop off cs)
 | none=>none
def load (ti:TI) (x:Slot) (e:Env) (h:Heap) (K:Slot->Bx->Heap->Prop):Prop :=
 match x with
 | .l t off=>match xC e t off ti.size with
  | some vs=>match ti.agg with
   | true=>kE vs λvs=>K (.v (.agg ⟨vs⟩)) none h
   | false=>match vs with
    | [v]=>K (.v v) none h
    | _=>False
  | none=>False
 | .v (.pointer (some ⟨b,off,none⟩))=>match ti.agg with
  | true=>Y0 h b off ti.size λvs=>K (.v (.agg ⟨vs⟩)) none h
  | false=>match ti.size with
   | 1=>Ld h b off λv=>K (.v v) none h
   | _=>False
 | _=>False
def cellsOf:Value->List Value
 | .agg cs=>cs.toList
 | v=>[v]
def kY (ti:TI) (v:Value) (K:List Value->Prop):Prop :=
 match ti.agg with
 | true=>match v with
  | .agg cs=>kE cs.toList λvs=>match vs.length.beq ti.size with
   | true=>K vs
   | false=>False
  | _=>False
 | false=>match lP v with
  | true=>K [v]
  | false=>False
def store (ti:TI) (x:Slot) (v:Value) (e:Env) (h:Heap) (K:Slot->Bx->Heap->Prop):Prop :=
 kY ti v λvs=>match dG vs with
 | false=>False
 | true=>match x with
 | .l t off=>match e.b t with
  | some cs=>match (off+vs.length).ble cs.length with
   | true=>kE (ep cs off vs) λjt=>K (.v undef) (some (t,jt)) h
   | false=>False
  | none=>False
 | .v (.pointer (some ⟨b,off,none⟩))=>St h b off vs λh'=>K (.v undef) none h'
 | _=>False
def bE (e:Env):List Operand->(List Value->Prop)->Prop
 | [],K=>K []
 | o::r,K=>match e.get o with
  | .v x=>bE e r λr'=>K (x::r')
  | _=>False
def parts (e:Env) (rQ:Nat->Option TI):List (Nat × Operand)->(List (Nat × List Value)->Prop)->Prop
 | [],K=>K []
 | (i,o)::r,K=>match e.get o,rQ i with
  | .v x,some ti=>kY ti x λvs=>parts e rQ r λr'=>K ((i,vs)::r')
  | _,_=>False
def sameKind:IntKind->IntKind->Bool
 | .i64,.i64=>true
 | .u8,.u8=>true
 | .i8,.i8=>true
 | .u64,.u64=>true
 | .i32,.i32=>true
 | .u32,.u32=>true
 | _,_=>false
def mx (x y:Int):Int:=if x < y then y else x
def mn (x y:Int):Int:=if y < x then y else x
def v8 (op:BinOp) (k:IntKind) (x y:Int):Int :=
 let a:=BitVec.ofInt k.bits x
 let b:=BitVec.ofInt k.bits y
 match op with
 | .and=>k.wrap (a &&& b).toNat
 | .or=>k.wrap (a ||| b).toNat
 | .xor=>k.wrap (a ^^^ b).toNat
 | _=>k.wrap (a &&& ~~~b).toNat
def vg (op:BinOp) (k:IntKind) (a b:Int) (K:Value->Prop) (raw:Prop):Prop :=
 match op with
 | .add=>Ar k (a+b) λn=>K (.int k n)
 | .sub=>Ar k (a-b) λn=>K (.int k n)
 | .mul=>Ar k (a*b) λn=>K (.int k n)
 | .quo=>Ob (b≠0) (Ar k (a.tdiv b) λn=>K (.int k n))
 | .rem=>Ob (b≠0) (K (.int k (a.tmod b)))
 | .eql=>K (.bool (decide (a=b)))
 | .neq=>K (.bool (!decide (a=b)))
 | .lss=>K (.bool (decide (a < b)))
 | .leq=>K (.bool (decide (a<=b)))
 | .gtr=>K (.bool (decide (b < a)))
 | .geq=>K (.bool (decide (b<=a)))
 | .and=>K (.int k (v8 .and k a b))
 | .or=>K (.int k (v8 .or k a b))
 | .xor=>K (.int k (v8 .xor k a b))
 | .andNot=>K (.int k (v8 .andNot k a b))
 | _=>raw
def Iu (a:Option Addr) (cap l size:Nat) (K:Option Addr->Prop):Prop :=
 ∀ oa,(cap≠l->oa=a.map λa=>a.add (l*size))->(cap=l->oa=a)->K oa
structure Sub (a:Option Addr) (cap l size:Nat) (K:Option Addr->Prop):Prop where
 run:Iu a cap l size K
theorem Ax:Sub=Iu:=by
 funext _ _ _ _ _;exact propext ⟨λh=>h.run,λh=>⟨h⟩⟩
def oI (size:Nat) (a:Option Addr) (cap:Nat) (lo:Option Slot) (h:Nat) (K:Value->Prop):Prop :=
 match lo with
 | none=>K (.slice a h cap)
 | some (.v (.int _ l))=>Ob (0<=l/\l<=h) (Sub a cap l.toNat size λoa=>K (.slice oa (h-l.toNat) (cap-l.toNat)))
 | some _=>False
def oJ (size:Nat) (a:Option Addr) (n cap:Nat) (lo hi:Option Slot) (K:Value->Prop):Prop :=
 match hi with
 | none=>oI size a cap lo n K
 | some (.v (.int _ x))=>Ob (0<=x/\x<=cap) (oI size a cap lo x.toNat K)
 | some _=>False
def Me (d:Nat):List Nat->Bool
 | []=>false
 | i::r=>match Nat.beq d i with
  | true=>true
  | false=>Me d r
def Pk (F:Fs):Operand->Bool
 | .func g=>Me g F.M
 | _=>false
def isLocal (F:Fs):Option Nat->Option Nat
 | some d=>match Me d F.L with
  | true=>some d
  | false=>none
 | none=>none
def newVar (F:Fs) (t:TypeId) (d:Option Nat) (cs:List Value) (e:Env) (h:Heap) (K:Slot->Bx->Heap->Prop):Prop :=
 match isLocal F d with
 | some d=>match e.b d with
  | none=>kE cs λcs=>K (.l d 0) (some (d,cs)) h
  | some _=>False
 | none=>Ig h cs t λb h'=>K (.v (.pointer (some ⟨b,0,none⟩))) none h'
def newRow (F:Fs) (t:TypeId) (d:Option Nat) (n:Nat) (cs:List Value) (e:Env) (h:Heap) (K:Slot->Bx->Heap->Prop):Prop :=
 match isLocal F d with
 | some d=>match e.b d with
  | none=>kE cs λcs=>K (.r d n) (some (d,cs)) h
  | some _=>False
 | none=>Ig h cs t λb h'=>K (.v (.slice (some ⟨b,0,none⟩) n n)) none h'
def Ea (S:nH) (d:TD):Option ((Nat->Option Nat) × (Nat->Option TI)) :=
 match d with
 | .str fs=>some ((λi=>match fs[i]? with|some (o,_)=>some o|none=>none),(λi=>match fs[i]? with|some (_,t)=>S.ty.find t|none=>none))
 | .arr n el=>some ((λi=>match S.ty.find el with|some ti=>(match Nat.blt i n with|true=>some (i*ti.size)|false=>none)|none=>none),(λ_=>S.ty.find el))
 | _=>none
def tH (n:Nat) (zero:List Value):List Value:=match n with
 | 0=>[]
 | n+1=>zero++tH n zero
def nth (ops:List Oper) (i:Nat):Option Oper:=match ops,i with
 | [],_=>none
 | o::_,0=>some o
 | _::r,i+1=>nth r i
def lenOf (x:Slot):Option Nat:=match x with
 | .v (.slice _ n _)=>some n
 | .v (.string s)=>some s.size
 | .r _ n=>some n
 | _=>none
def gQ (e:Env):Option Operand->Option Slot
 | none=>none
 | some o=>some (e.get o)
def Ay (k:Nat):Option (List Value)->Option Value:=λvs=>match vs with
 | some l=>match k,l with
  | 0,v::_=>some v
  | _,_=>none
 | none=>none
def Pm (S:nH) (t:TypeId) (ps:List (Nat × Operand)) (e:Env) (K:Value->Prop):Prop :=
 match S.ty.find t with
 | some ti=>match Ea S ti.d with
  | none=>False
  | some (pl,rQ)=>parts e rQ ps λvs=>match oG pl ti.zero vs with
   | some cs=>kE cs λcs=>K (.agg ⟨cs⟩)
   | none=>False
 | none=>False
def appArg (e:Env) (size:Nat) (x:Slot) (h:Heap) (K:Nat->List Value->Prop):Prop :=
 match x with
 | .r t n=>match e.b t with
  | some cs=>match cs.length.beq (n*size)with
   | true=>K n cs
   | false=>False
  | none=>False
 | .v (.slice p n _)=>RK h p (n*size) λvs=>K n vs
 | _=>False
def qf (P:Program) (S:nH) (x:Bool) (f:Value) (args:List Value) (h:Heap) (K:Slot->Bx->Heap->Prop) (E:List PanicEntry->Heap->Prop):Prop :=
 match f with
 | .func (.func g) first captured=>match Nat.ble S.lo g,Nat.blt g S.nf with
  | true,true=>kE (first.toList++args++captured.toList) λargs=>match x with
   | true=>jA P g args h (λv h'=>K (.v v) none h') E
   | false=>Call P g args h (λv h'=>K (.v v) none h') E
  | _,_=>False
 | _=>False
def Iv:Op->Bool
 | .move _ | .assign _ | .pick .. | .alloc _ | .box .. | .build .. | .buildSlice .. | .load .. | .nilCheck _ | .binOp .. | .unOp .. | .convert .. | .makeInterface .. | .makeFunc .. | .slice .. | .fieldAddr .. | .field .. | .indexAddr .. | .index .. | .extract .. | .makeSlice ..=>false
 | .call {callee:=.value _,.. }=>false
 | .call {callee:=.builtin .len,.. }=>false
 | .call {callee:=.builtin .append,.. }=>false
 | .call {callee:=.builtin .max,.. }=>false
 | .call {callee:=.builtin .min,.. }=>false
 | .call {callee:=.builtin .cap,.. }=>false
 | _=>true
def Ih (l:List Nat):Option Nat->Bool
 | some d=>Me d l
 | none=>false
def exec (P:Program) (S:nH) (F:Fs) (x:Bool) (o:Oper) (e:Env) (h:Heap) (K:Slot->Bx->Heap->Prop) (E:List PanicEntry->Heap->Prop):Prop :=
 let raw:Prop:=match x && !Iv o.op with
  | true=>False
  | false=>Raw P o e h λv h'=>K (.v v) none h'
 match o.op with
 | .move a | .assign a=>match e.get a with
  | .x=>False
  | s=>K s none h
 | .pick c a b=>match e.get c with
  | .v (.bool t)=>eL t (match e.get a with
    | .x=>False
    | s=>K s none h) (match e.get b with
    | .x=>False
    | s=>K s none h)
  | _=>False
 | .alloc t=>match S.ty.find t with
  | some ti=>newVar F t o.dst ti.zero e h K
  | none=>False
 | .box t a=>match e.get a,S.ty.find t with
  | .v v,some ti=>kY ti v λcs=>newVar F t o.dst cs e h K
  | _,_=>False
 | .build t ps=>Pm S t ps.toList e λv=>K (.v v) none h
 | .buildSlice t n ps=>match S.ty.find t with
  | some ⟨_,_,_,_,.sl el⟩=>match S.ty.find el with
   | some ti=>match (n*ti.size).ble 16777216 with
    | true=>parts e (λ_=>some ti) ps.toList λvs=>match oG (λi=>some (i*ti.size)) (tH n ti.zero) vs with
     | some cs=>newRow F el o.dst n cs e h K
     | none=>False
    | false=>False
   | none=>False
  | _=>False
 | .load t a=>match S.ty.find t with
  | some ti=>match Ih F.LL o.dst with
   | true=>match e.get a with
    | .l u off=>load ti (.l u off) e h K
    | _=>False
   | false=>load ti (e.get a) e h K
  | none=>False
 | .store t a b=>match S.ty.find t,e.get b with
  | some ti,.v v=>store ti (e.get a) v e h K
  | _,_=>False
 | .nilCheck a=>match e.get a with
  | .l t off=>K (.l t off) none h
  | .v (.pointer (some a))=>K (.v (.pointer (some a))) none h
  | .v (.iface t v)=>K (.v (.iface t v)) none h
  | .v (.func (.func g) a b)=>K (.v (.func (.func g) a b)) none h
  | _=>raw
 | .binOp op t a b _=>match e.get a,e.get b with
  | .v (.int k m),.v (.int k' n)=>match sameKind k k' with
   | true=>vg op k m n (λv=>K (.v v) none h) raw
   | false=>raw
  | .v (.bool x),.v (.bool y)=>match S.ty.find t with
   | some ⟨_,_,_,_,.YY⟩=>match op with
    | .eql=>K (.v (.bool (x==y))) none h
    | .neq=>K (.v (.bool (x != y))) none h
    | _=>raw
   | _=>raw
  | _,_=>zu P o e h x K
 | .unOp op _ a=>match op,e.get a with
  | .not,.v (.bool b)=>K (.v (.bool (!b))) none h
  | .neg,.v (.int k n)=>Ar k (0-n) λn=>K (.v (.int k n)) none h
  | _,_=>raw
 | .convert s t a=>match S.ty.find s,S.ty.find t,e.get a with
  | some _,some tj,.v (.int _ n)=>match tj.d with
   | .num k=>Ar k n λn=>K (.v (.int k n)) none h
   | _=>raw
  | _,_,_=>raw
 | .makeInterface t a=>match S.ty.find t,e.get a with
  | some ti,.v v=>match ti.d with
   | .Sf=>False
   | _=>K (.v (.iface t v)) none h
  | _,_=>False
 | .makeFunc f fs cs=>bE e fs.toList λfs=>bE e cs.toList λcs=>K (.v (.func f ⟨fs⟩ ⟨cs⟩)) none h
 | .slice t a lo hi mx=>match S.ty.find t,mx with
  | some ⟨_,_,_,_,.sl el⟩,none=>match S.ty.find el,e.get a with
   | some ti,.v (.slice p n cap)=>oJ ti.size p n cap (gQ e lo) (gQ e hi) λv=>K (.v v) none h
   | _,_=>raw
  | _,_=>raw
 | .fieldAddr t a i=>match S.ty.find t with
  | some ⟨_,_,_,_,.str fs⟩=>match fs[i]? with
   | some (k,_)=>match e.get a with
    | .l u off=>K (.l u (off+k)) none h
    | .v (.pointer (some ⟨b,off,none⟩))=>K (.v (.pointer (some ⟨b,off+k,none⟩))) none h
    | _=>False
   | none=>False
  | _=>False
 | .field t a i=>match S.ty.find t with
  | some ⟨_,_,_,_,.str fs⟩=>match fs[i]? with
   | some (k,u)=>match e.get a,S.ty.find u with
    | .v (.agg cs),some ti=>match take ti.size (drop k cs.toList)with
     | some vs=>match ti.agg with
      | true=>kE vs λvs=>K (.v (.agg ⟨vs⟩)) none h
      | false=>match vs with
       | [v]=>K (.v v) none h
       | _=>False
     | none=>False
    | _,_=>False
   | none=>False
  | _=>False
 | .indexAddr t a i=>match e.get i with
  | .v (.int _ i)=>match S.ty.find t with
   | some ⟨_,_,_,_,.sl el⟩=>match S.ty.find el,e.get a with
    | some ti,.v (.slice p n _)=>Ob (0<=i/\i < n) (Ptr p λb off=>K (.v (.pointer (some ⟨b,off+i.toNat*ti.size,none⟩))) none h)
    | some ti,.r u n=>Ob (0<=i/\i < n) (K (.l u (i.toNat*ti.size)) none h)
    | _,_=>False
   | some ⟨_,_,_,_,.arr n el⟩=>match S.ty.find el,e.get a with
    | some ti,.v (.pointer (some ⟨b,off,none⟩))=>Ob (0<=i/\i < n) (K (.v (.pointer (some ⟨b,off+i.toNat*ti.size,none⟩))) none h)
    | some ti,.l u off=>Ob (0<=i/\i < n) (K (.l u (off+i.toNat*ti.size)) none h)
    | _,_=>False
   | _=>False
  | _=>False
 | .index t a i=>match e.get a,e.get i with
  | .v (.string s),.v (.int _ i)=>match S.ty.find t with
   | some ⟨_,_,_,_,.Se⟩=>Ob (0<=i/\i < s.size) (K (.v (.int .u8 ((s.data.toList.getD i.toNat 0).toNat:Nat))) none h)
   | _=>raw
  | _,_=>raw
 | .extract a i=>match e.get a with
  | .v (.tuple vs)=>match Ay 0 (take 1 (drop i vs.toList))with
   | some v=>K (.v v) none h
   | none=>False
  | _=>False
 | .makeSlice t n c=>match S.ty.find t with
  | some ⟨_,_,_,_,.sl el⟩=>match S.ty.find el,e.get n,e.get c with
   | some ti,.v (.int .i64 n),.v (.int .i64 c)=>Ob (n=c/\0<=n/\n*ti.bytes<=2 ^ 44/\n<=2 ^ 44) (Ig h (List.replicate n.toNat ti.zero).flatten el λb h'=>K (.v (.slice (some ⟨b,0,none⟩) n.toNat n.toNat)) none h')
   | _,_,_=>False
  | _=>False
 | .call {callee:=.value f,args:=args,.. }=>match e.get f with
  | .v fv=>bE e args.toList λargs=>qf P S (x && !Pk F f) fv args h K E
  | _=>False
 | .call {callee:=.builtin .len,args:=args,argTypes:=ts}=>match args.toList with
  | [a]=>match e.get a with
   | .v (.slice _ n _)=>match (ts.toList.head?).bind S.ty.find with
    | some ⟨_,_,_,_,.sl _⟩=>K (.v (.int .i64 n)) none h
    | _=>False
   | .r _ n=>match (ts.toList.head?).bind S.ty.find with
    | some ⟨_,_,_,_,.sl _⟩=>K (.v (.int .i64 n)) none h
    | _=>False
   | _=>raw
  | _=>False
 | .call {callee:=.builtin .max,args:=args,.. }=>match args.toList with
  | [a,b]=>match e.get a,e.get b with
   | .v (.int k x),.v (.int k' y)=>match sameKind k k' with
    | true=>K (.v (.int k (mx x y))) none h
    | false=>raw
   | _,_=>raw
  | _=>raw
 | .call {callee:=.builtin .min,args:=args,.. }=>match args.toList with
  | [a,b]=>match e.get a,e.get b with
   | .v (.int k x),.v (.int k' y)=>match sameKind k k' with
    | true=>K (.v (.int k (mn x y))) none h
    | false=>raw
   | _,_=>raw
  | _=>raw
 | .call {callee:=.builtin .cap,args:=args,argTypes:=ts}=>match args.toList with
  | [a]=>match e.get a with
   | .v (.slice _ _ c)=>match (ts.toList.head?).bind S.ty.find with
    | some ⟨_,_,_,_,.sl _⟩=>K (.v (.int .i64 c)) none h
    | _=>False
   | _=>raw
  | _=>False
 | .call {callee:=.builtin .append,args:=args,argTypes:=ts}=>match args.toList,ts.toList with
  | [a,y],[t,u]=>match S.ty.find t,S.ty.find u with
   | some ⟨_,_,_,_,.sl el⟩,some ⟨_,_,_,_,.sl _⟩=>match S.ty.find el with
    | some ti=>match e.get a with
     | .v (.slice p n cap)=>appArg e ti.size (e.get y) h λm vs=>App ti.bytes ti.size ti.zero el h p n cap m vs λv h'=>K (.v v) none h'
     | _=>False
    | none=>False
   | _,_=>raw
  | _,_=>False
 | .panic a=>match e.get a with
  | .v (.iface t v)=>E [{v:=.iface t v,recovered:=false}] h
  | _=>False
 | _=>raw
def guardOf (ops:List Oper) (g:Option (Nat × Bool)):Option (Option Nat × Bool):=match g with
 | none=>none
 | some (j,w)=>match nth ops j with
  | some o=>some (o.dst,w)
  | none=>some (none,w)
def tI (P:Program) (S:nH) (F:Fs) (x:Bool) (all:List Oper) (o:Oper) (e:Env) (h:Heap) (K:Env->Heap->Prop) (E:List PanicEntry->Heap->Prop):Prop :=
 let run (e:Env):Prop:=exec P S F x o e h (λs bx h'=>K (e.put o.dst s bx) h') E
 let skip (e:Env):Prop:=K (e.put o.dst (.v undef) none) h
 match guardOf all o.guard with
 | none=>run e
 | some (none,_)=>skip e
 | some (some d,w)=>match e.s d with
  | .v (.bool b)=>eL b
   (match w with
    | true=>run (e.put (some d) (.v (.bool true)) none)
    | false=>skip (e.put (some d) (.v (.bool true)) none))
   (match w with
    | true=>skip (e.put (some d) (.v (.bool false)) none)
    | false=>run (e.put (some d) (.v (.bool false)) none))
  | .v (.tuple _)=>skip e
  | _=>False
def Mf (P:Program) (S:nH) (F:Fs) (x:Bool) (all:List Oper) (K:Env->Heap->Prop) (E:List PanicEntry->Heap->Prop):List Nat->Env->Heap->Prop
 | [],e,h=>K e h
 | i::r,e,h=>match nth all i with
  | some o=>tI P S F x all o e h (λe' h'=>Mf P S F x all K E r e' h') E
  | none=>False
def Ch (P:Program) (S:nH) (F:Fs) (all:List Oper) (K:Env->Heap->Prop) (E:List PanicEntry->Heap->Prop):List Oper->Env->Heap->Prop
 | [],e,h=>K e h
 | o::r,e,h=>tI P S F false all o e h (λe' h'=>Ch P S F all K E r e' h') E
def Eb (id:Nat):List (Nat × List Nat)->Option (List Nat)
 | []=>none
 | (i,p)::r=>match Nat.beq id i with
  | true=>some p
  | false=>Eb id r
def Ec (id:Nat):List (Nat × PT)->Option PT
 | []=>none
 | (i,p)::r=>match Nat.beq id i with
  | true=>some p
  | false=>Ec id r
def tJ (P:Program) (S:nH) (F:Fs) (all:List Oper) (K:Env->Heap->Prop) (E:List PanicEntry->Heap->Prop):PT->Env->Heap->Prop
 | .nil,e,h=>K e h
 | .fO,_,_=>True
 | .one i r,e,h=>match nth all i with
  | some o=>tI P S F true all o e h (λe' h'=>tJ P S F all K E r e' h') E
  | none=>False
 | .alt i t r,e,h=>(match nth all i with
  | some o=>tI P S F true all o e h (λe' h'=>tJ P S F all K E t e' h') E
  | none=>False)/\tJ P S F all K E r e h
def drawn (P:Program) (S:nH) (F:Fs) (id:Nat) (all:List Oper) (K:Env->Heap->Prop) (E:List PanicEntry->Heap->Prop) (e:Env) (h:Heap):Prop :=
 match Eb id F.cr with
 | some p=>Mf P S F true all K E p e h
 | none=>match Ec id F.trees with
  | some t=>tJ P S F all K E t e h
  | none=>False
def den (P:Program) (S:nH) (F:Fs):Code->(Ex->Env->Heap->Prop)->Env->Heap->Prop
 | .skip,K,e,h=>K .normal e h
 | .label _,K,e,h=>K .normal e h
 | .region id ops dr,K,e,h=>match dr with
  | false=>Ch P S F ops.toList (K .normal) (λc h'=>K (.lE c) e h') ops.toList e h
  | true=>drawn P S F id ops.toList (K .normal) (λc h'=>K (.lE c) e h') e h
 | .seq a b,K,e,h=>den P S F a (λx e' h'=>match x with | .normal=>den P S F b K e' h' | .exit i=>K (.exit i) e' h' | .ret=>K .ret e' h' | .lE c=>K (.lE c) e' h') e h
 | .cond c a b,K,e,h=>match e.get c with
  | .v (.bool t)=>eL t (den P S F a K e h) (den P S F b K e h)
  | _=>False
 | .block id c,K,e,h=>den P S F c (λx e' h'=>match x with
  | .normal=>K .normal e' h'
  | .exit i=>match Nat.beq i id with
   | true=>K .normal e' h'
   | false=>K (.exit i) e' h'
  | .ret=>K .ret e' h'
  | .lE c=>K (.lE c) e' h') e h
 | .loop c,K,e,h=>Lp (λK e h=>den P S F c K e h) K e h
 | .exit i,K,e,h=>K (.exit i) e h
 | .ret,K,e,h=>K .ret e h
 | .scope c,K,e,h=>den P S F c K e h
 | _,_,_,_=>False
set_option linter.unusedSimpArgs false
set_option linter.unusedVariables false
def mT:TypeDesc->TD
 | .bool=>.YY
 | .int k=>.num k
 | .string=>.Se
 | .struct fs=>.str (fs.toList.map λf=>(f.offset,f.type))
 | .array n e=>.arr n e
 | .slice e=>.sl e
 | .pointer e=>.ptr e
 | .interface _=>.Sf
 | _=>.dj
def Po:TypeDesc->Bool
 | .struct _=>true
 | .array _ _=>true
 | _=>false
def Pp (P:Program) (t:TypeId):Option TI :=
 match P.info? t,P.underlying t with
 | some i,some d=>match i.zero with
  | some z=>some ⟨i.size,i.bytes,z.cells.toList,Po d,mT d⟩
  | none=>none
 | _,_=>none
def Tree.list {α:Type}:Tree α->List (Nat × α)
 | .leaf=>[]
 | .node l k v r=>l.list++(k,v)::r.list
theorem Tree.lQ {α:Type} (i:Nat) (v:α):∀ t:Tree α,t.find i=some v->(i,v)∈t.list
 | .leaf,h=>by simp[Tree.find]at h
 | .node l k u r,h=>by
  unfold Tree.find at h;split at h
  ·rename_i hk;have:=Nat.eq_of_beq_eq_true hk;simp only[Option.some.injEq]at h;subst h;subst this;simp[Tree.list]
  ·split at h
   ·have:=Tree.lQ i v l h;simp[Tree.list,this]
   ·have:=Tree.lQ i v r h;simp[Tree.list,this]
structure dn (P:Program) (S:nH):Prop where
 ty:∀ t ti,S.ty.find t=some ti->Pp P t=some ti
 fn:∀ g,S.lo<=g->g < S.nf->∃ fn,P.funcs[g]? = some fn/\fn.body.isNone=false/\(fn.name == "runtime.NumGoroutine")=false
 mix:P.follows .mixedOrders=true
 one:∀ t ti,S.ty.find t=some ti->ti.agg=false->ti.size=1
 zero:∀ t ti,S.ty.find t=some ti->ti.zero.length=ti.size
 cX:∀ t ti fs,S.ty.find t=some ti->ti.d=.str fs->∀ f∈fs,∃ tj,S.ty.find f.2=some tj/\tj.size≠0
 elems:∀ t ti k el,S.ty.find t=some ti->ti.d=.arr k el->(S.ty.find el).isSome
def Sh (S:nH) (p:TypeId × TI):Bool:=(p.2.agg||p.2.size==1)&&p.2.zero.length==p.2.size&&match p.2.d with
 | .str fs=>fs.all λf=>match S.ty.find f.2 with
  | some tj=>tj.size != 0
  | none=>false
 | .arr _ el=>(S.ty.find el).isSome
 | _=>true
def fnB (P:Program) (g:Nat):Bool:=match P.funcs[g]? with
 | some fn=>!fn.body.isNone && !(fn.name == "runtime.NumGoroutine")
 | none=>false
theorem dn.mk' {P:Program} {S:nH} (ht:S.ty.list.map (λp=>Pp P p.1)=S.ty.list.map (λp=>some p.2))
  (hf:(List.range' S.lo (S.nf-S.lo)).all (fnB P)=true) (hm:P.follows .mixedOrders=true)
  (h1:S.ty.list.all (Sh S)=true):dn P S where
 ty t ti h:=by
  have hm:=Tree.lQ t ti _ h;have:=(List.map_inj_left.1 ht) _ hm;exact this
 fn g h1 h2:=by
  have:=List.all_eq_true.1 hf g (by simp[List.mem_range'_1];omega);unfold fnB at this;split at this
  ·rename_i fn Si;simp at this;exact⟨fn,Si,by simpa using this.1,by simpa using this.2⟩
  ·simp at this
 mix:=hm
 one t ti h ha:=by
  have hm:=Tree.lQ t ti _ h;have:=List.all_eq_true.1 h1 _ hm;simp only[Sh,Bool.and_eq_true]at this;simpa [ha]using this.1.1
 zero t ti h:=by
  have hm:=Tree.lQ t ti _ h;have:=List.all_eq_true.1 h1 _ hm;simp only[Sh,Bool.and_eq_true]at this;simpa using this.1.2
 cX t ti fs h hd f hf:=by
  have hm:=Tree.lQ t ti _ h;have:=List.all_eq_true.1 h1 _ hm;simp only[Sh,Bool.and_eq_true,hd]at this;have:=List.all_eq_true.1 this.2 f hf;split at this
  ·rename_i tj Lz;exact⟨tj,Lz,by simpa using this⟩
  ·cases this
 elems t ti k el h hd:=by
  have hm:=Tree.lQ t ti _ h;have:=List.all_eq_true.1 h1 _ hm;simp only[Sh,Bool.and_eq_true,hd]at this;exact this.2
theorem dn.info {P:Program} {S:nH} (hS:dn P S) {t:TypeId} {ti:TI} (h:S.ty.find t=some ti) :
  ∃ i z d,P.info? t=some i/\i.zero=some z/\P.underlying t=some d/\i.size=ti.size/\i.bytes=ti.bytes/\z.cells.toList=ti.zero/\Po d=ti.agg/\mT d=ti.d:=by
 have h:=hS.ty t ti h;unfold Pp at h;split at h
 ·rename_i i d hi hd;split at h
  ·rename_i z hz;simp only[Option.some.injEq]at h;subst h;exact⟨i,z,d,hi,hz,hd,rfl,rfl,rfl,rfl,rfl⟩
  ·cases h
 ·cases h
section
variable {P:Program} {S:nH} (hS:dn P S)
include hS
theorem run_sizeOf {t:TypeId} {ti:TI} (h:S.ty.find t=some ti) (w:World):(sizeOf t).run P w=.ok ti.size w:=by
 obtain⟨i,z,d,hi,hz,hd,hs,U,hc,ha,ht⟩:=hS.info h;simp[sizeOf,typeInfo,hi,hs]
theorem j9 {t:TypeId} {ti:TI} (h:S.ty.find t=some ti) (w:World):∃ z,(zeroValue t).run P w=.ok z w/\z.cells.toList=ti.zero:=by
 obtain⟨i,z,d,hi,hz,hd,hs,U,hc,ha,ht⟩:=hS.info h;exact⟨z,by simp[zeroValue,typeInfo,hi,hz],hc⟩
theorem cS {t:TypeId} {ti:TI} (h:S.ty.find t=some ti) (w:World):∃ d,(underlying t).run P w=.ok d w/\Po d=ti.agg/\mT d=ti.d:=by
 obtain⟨i,z,d,hi,hz,hd,hs,U,hc,ha,ht⟩:=hS.info h;exact⟨d,by simp[underlying,hd],ha,ht⟩
theorem qT {t:TypeId} {ti:TI} (h:S.ty.find t=some ti) (w:World):(isAgg t).run P w=.ok ti.agg w:=by
 obtain⟨d,hd,ha,_⟩:=cS hS h w;simp only[isAgg,Sem.run_bind,hd,Result.andThen_ok];rw[<-ha];cases d<;>rfl
theorem lF {t:TypeId} {ti:TI} (h:S.ty.find t=some ti) (w:World):∃ i,(typeInfo t).run P w=.ok i w/\i.bytes=ti.bytes/\i.size=ti.size:=by
 obtain⟨i,z,d,hi,hz,hd,hs,U,hc,ha,ht⟩:=hS.info h;exact⟨i,by simp[typeInfo,hi],U,hs⟩
end
def lR (β:Nat->Nat) (e:Env):Slot->Value->Prop
 | .v x,v=>v=x
 | .l t off,v=>v=.pointer (some ⟨β t,off,none⟩)/\(e.b t).isSome
 | .r t n,v=>v=.slice (some ⟨β t,0,none⟩) n n/\(e.b t).isSome
 | .x,_=>True
structure Rel (D:List Deferred) (n:Nat) (h0:Heap) (w0:World) (β:Nat->Nat) (e:Env) (h:Heap) (a:Act) (w:World):Prop where
 size:a.tmps.size=n
 xD:a.defers=D
 slot:∀ t,lR β e (e.s t) (a.tmps.getD t undef)
 box:∀ t cs,e.b t=some cs->(∃ ty,w.heap[β t]? = some (.cells cs.toArray ty (0,0)))/\h (β t)=none/\w0.heap.size<=β t
 inj:∀ t u,(e.b t).isSome->(e.b u).isSome->β t=β u->t=u
 mv:cP h0 w0 h w
theorem FI {H:Array Obj} {o:Obj} (ho:∀ cs t z,o=Obj.cells cs t z->z=(0,0)) {b:Nat} {cs:Array Value} {t:TypeId} {z:Nat × Nat} (U:(H.push o)[b]? = some (Obj.cells cs t z)):z=(0,0)\/H[b]? = some (Obj.cells cs t z):=by
 rw[Array.getElem?_push]at U;split at U
 ·simp only[Option.some.injEq]at U;exact .inl (ho _ _ _ U)
 ·exact .inr U
theorem FJ {H:Array Obj} {k:Nat} {o:Obj} (ho:∀ cs t z,o=Obj.cells cs t z->z=(0,0)) {b:Nat} {cs:Array Value} {t:TypeId} {z:Nat × Nat} (U:(H.setIfInBounds k o)[b]? = some (Obj.cells cs t z)):z=(0,0)\/H[b]? = some (Obj.cells cs t z):=by
 rw[Array.getElem?_setIfInBounds]at U;split at U
 ·split at U
  ·simp only[Option.some.injEq]at U;exact .inl (ho _ _ _ U)
  ·cases U
 ·exact .inr U
theorem cP.refl {h:Heap} {w:World} (hv:∀ b o,h b=some o->w.heap[b]? = some o):cP h w h w :=
 ⟨hv,λ_ _ _=>rfl,λ_ h=>.inl h,Nat.le_refl _,λ_ _ _ _ h=>.inr h,rfl,rfl,rfl⟩
theorem cP.trans {h0 h1 h2:Heap} {w0 w1 w2:World} (a:cP h0 w0 h1 w1) (b:cP h1 w1 h2 w2):cP h0 w0 h2 w2 where
 view:=b.view
 aG x hx hn:=by
  have h1n:h1 x=none:=by
   cases h:h1 x with
   | none=>rfl
   | some o =>
    rcases a.xd x (by simp[h])with h'|h'
    ·exact absurd hn h'
    ·omega
  rw[b.aG x (by have:=a.size;omega) h1n,a.aG x hx hn]
 xd x hx:=by
  rcases b.xd x hx with h'|h'
  ·exact a.xd x h'
  ·exact .inr (by have:=a.size;omega)
 size:=Nat.le_trans a.size b.size
 fz x cs t z hx:=(b.fz x cs t z hx).elim .inl (a.fz x cs t z)
 out:=⟨b.out.1.trans a.out.1,b.out.2.1.trans a.out.2.1,b.out.2.2.trans a.out.2.2⟩
theorem ey {w:World} {b:Nat} {o:Obj} (h:w.heap[b]? = some o):b < w.heap.size:=(Array.getElem?_eq_some_iff.1 h).1
variable {D:List Deferred} {n:Nat} {h0:Heap} {w0:World} {β:Nat->Nat} {e:Env} {h:Heap} {a:Act} {w:World}
theorem Rel.fresh (r:Rel D n h0 w0 β e h a w):h w.heap.size=none:=by
 cases hh:h w.heap.size with
 | none=>rfl
 | some o=>have:=ey (r.mv.view _ _ hh);omega
theorem Rel.eval (r:Rel D n h0 w0 β e h a w) {x:Operand} {v:Value} (hx:e.get x=.v v):a.eval x=v:=by
 cases x with
 | tmp t=>have:=r.slot t;simp only[Env.get]at hx;rw[hx]at this;exact this
 | const c=>simp only[Env.get,Slot.v.injEq]at hx;simp[Act.eval,hx]
 | global g=>simp only[Env.get,Slot.v.injEq]at hx;simp[Act.eval,hx]
 | func f=>simp only[Env.get,Slot.v.injEq]at hx;simp[Act.eval,hx]
theorem Rel.mW (r:Rel D n h0 w0 β e h a w) (x:Operand):lR β e (e.get x) (a.eval x):=by
 cases x with
 | tmp t=>exact r.slot t
 | const c=>rfl
 | global g=>rfl
 | func f=>rfl
theorem xE (a:Act) (d:Option Nat) (v:Value) (t:Nat) (hd:∀ d',d=some d'->d' < a.tmps.size) :
  (a.put d v).tmps.getD t undef=match d with|none=>a.tmps.getD t undef|some d'=>if t=d' then v else a.tmps.getD t undef:=by
 cases d with
 | none=>rfl
 | some d' =>
  have h:=hd d' rfl;simp only[Act.put,Array.getD_eq_getD_getElem?,Array.getElem?_setIfInBounds];by_cases e:t=d'
  ·subst e;simp[h]
  ·have e':¬d'=t:=λh=>e h.symm;simp[e,e']
theorem xF (a:Act) (d:Option Nat) (v:Value):(a.put d v).tmps.size=a.tmps.size:=by cases d<;>simp[Act.put]
theorem put_defers (a:Act) (d:Option Nat) (v:Value):(a.put d v).defers=a.defers:=by cases d<;>rfl
theorem Rel.put (r:Rel D n h0 w0 β e h a w) {h':Heap} {w':World} (m:cP h w h' w') (d:Option Nat) (hd:∀ d',d=some d'->d' < n) {s:Slot} {v:Value} (hs:lR β e s v) :
  Rel D n h0 w0 β (e.put d s none) h' (a.put d v) w' where
 size:=by rw[xF,r.size]
 xD:=by rw[put_defers,r.xD]
 slot t:=by
  rw[xE a d v t (by rw[r.size];exact hd)];cases d with
  | none=>exact r.slot t
  | some d' =>
   simp only[Env.put];by_cases hh:t=d'
   ·simp only[hh,if_true];cases s<;>exact hs
   ·simp only[hh,if_false];have:=r.slot t;revert this;cases e.s t<;>exact id
 box t cs U:=by
  obtain⟨⟨ty,h1⟩,h2,h3⟩:=r.box t cs U;have iS:=ey h1;refine⟨⟨ty,by rw[m.aG _ iS h2,h1]⟩,?_,h3⟩;cases hh:h' (β t)with
  | none=>rfl
  | some o =>
   rcases m.xd (β t) (by simp[hh])with h'|h'
   ·exact absurd h2 h'
   ·omega
 inj:=r.inj
 mv:=r.mv.trans m
theorem Rel.Pq (r:Rel D n h0 w0 β e h a w) (d:Nat) (hd:d < n) (U:e.b d=none) (cs:List Value) (ty:TypeId) {s:Slot} {v:Value}
  (hs:(s=.l d 0/\v=.pointer (some ⟨w.heap.size,0,none⟩))\/(∃ k,s=.r d k/\v=.slice (some ⟨w.heap.size,0,none⟩) k k)) :
  Rel D n h0 w0 (λt=>if t=d then w.heap.size else β t) (e.put (some d) s (some (d,cs))) h (a.put (some d) v) {w with heap:=w.heap.push (.cells cs.toArray ty (0,0))} where
 size:=by rw[xF,r.size]
 xD:=by rw[put_defers,r.xD]
 slot t:=by
  rw[xE a (some d) v t (by rintro _ ⟨⟩;rw[r.size];exact hd)];simp only[Env.put];by_cases hh:t=d
  ·simp only[hh,if_true];rcases hs with ⟨rfl,rfl⟩|⟨k,rfl,rfl⟩<;>simp[lR]
  ·simp only[hh,if_false];have:=r.slot t;revert this
   cases dZ:e.s t with
   | v x=>exact id
   | x=>exact id
   | l u off =>
    intro ⟨h1,h2⟩;have hu:u≠d:=λhu=>by rw[hu,U]at h2;cases h2
    simp[lR,hu,h1,h2]
   | r u k =>
    intro ⟨h1,h2⟩;have hu:u≠d:=λhu=>by rw[hu,U]at h2;cases h2
    simp[lR,hu,h1,h2]
 box t jt bz:=by
  simp only[Env.put]at bz;by_cases hh:t=d
  ·simp only[hh,if_true,Option.some.injEq]at bz ⊢;subst bz;exact⟨⟨ty,by simp⟩,r.fresh,r.mv.size⟩
  ·simp only[hh,if_false]at bz ⊢;obtain⟨⟨Pr,h1⟩,h2,h3⟩:=r.box t jt bz;have iS:=ey h1;exact⟨⟨Pr,by rw[Array.getElem?_push_lt iS];rw[Array.getElem?_eq_getElem iS]at h1;exact h1⟩,h2,h3⟩
 inj t u ht hu GH:=by
  simp only[Env.put]at ht hu;by_cases h1:t=d
  ·by_cases h2:u=d
   ·rw[h1,h2]
   ·simp only[h1,if_true,h2,if_false]at GH hu;obtain⟨jt,hc⟩:=Option.isSome_iff_exists.1 hu;obtain⟨⟨Pr,h3⟩,_,_⟩:=r.box u jt hc;have:=ey h3;omega
  ·by_cases h2:u=d
   ·simp only[h1,if_false,h2,if_true]at GH ht;obtain⟨jt,hc⟩:=Option.isSome_iff_exists.1 ht;obtain⟨⟨Pr,h3⟩,_,_⟩:=r.box t jt hc;have:=ey h3;omega
   ·simp only[h1,if_false,h2,if_false]at GH ht hu;exact r.inj t u ht hu GH
 mv:={
  view:=λb o U=>by
   have h1:=r.mv.view b o U;have iS:=ey h1;show(w.heap.push _)[b]? = some o;rw[Array.getElem?_push_lt iS];rw[Array.getElem?_eq_getElem iS]at h1;exact h1
  aG:=λb U hn=>by
   have h1:=r.mv.aG b U hn;have iS:b < w.heap.size:=by have:=r.mv.size;omega
   show(w.heap.push _)[b]? = _;rw[Array.getElem?_push_lt iS,<-h1,Array.getElem?_eq_getElem iS]
  xd:=r.mv.xd
  size:=by have:=r.mv.size;show w0.heap.size<=(w.heap.push _).size;simp;omega
  fz:=λb jt t' z U=>(FI (λ_ _ _ h=>by cases h;rfl) U).elim .inl (r.mv.fz b jt t' z)
  out:=r.mv.out}
theorem cP.push (hv:∀ b o,h b=some o->w.heap[b]? = some o) (o:Obj) (ho:∀ cs t z,o=Obj.cells cs t z->z=(0,0):=by intro _ _ _ h;cases h<;>rfl):cP h w (h.set w.heap.size o) {w with heap:=w.heap.push o} where
 view b o' U:=by
  show(w.heap.push o)[b]? = some o';simp only[Heap.set]at U;split at U
  ·rename_i hh;subst hh;simp only[Option.some.injEq]at U;simp[U]
  ·have h1:=hv b o' U;have iS:=ey h1;rw[Array.getElem?_push_lt iS];rw[Array.getElem?_eq_getElem iS]at h1;exact h1
 aG b U _:=by
  show(w.heap.push o)[b]? = _;rw[Array.getElem?_push_lt U,Array.getElem?_eq_getElem U]
 xd b U:=by
  simp only[Heap.set]at U;split at U
  ·exact .inr (by omega)
  ·exact .inl U
 size:=by show w.heap.size<=(w.heap.push o).size;simp
 fz _ _ _ _ U:=FI ho U
 out:=⟨rfl,rfl,rfl⟩
theorem cP.Iw (hv:∀ b o,h b=some o->w.heap[b]? = some o) {b:Nat} {o:Obj} (U:h b=some o) (o':Obj) {w':World} (hw:w'.heap=w.heap.setIfInBounds b o') (ho:w'.os=w.os/\w'.tape=w.tape/\w'.output=w.output) (hz:∀ cs t z,o'=Obj.cells cs t z->z=(0,0):=by intro _ _ _ h;cases h<;>rfl):cP h w (h.set b o') w' where
 view c x hc:=by
  rw[hw,Array.getElem?_setIfInBounds];simp only[Heap.set]at hc;have iS:=ey (hv b o U);split at hc
  ·rename_i hh;subst hh;simp only[Option.some.injEq]at hc;simp[iS,hc]
  ·rename_i hh;rw[if_neg (λh=>hh h.symm)];exact hv c x hc
 aG c hc hn:=by
  rw[hw,Array.getElem?_setIfInBounds];rw[if_neg];intro hh;subst hh;rw[U]at hn;cases hn
 xd c hc:=by
  simp only[Heap.set]at hc;split at hc
  ·rename_i hh;subst hh;exact .inl (by simp[U])
  ·exact .inl hc
 size:=by rw[hw];simp
 fz _ _ _ _ U:=by rw[hw]at U;exact FJ hz U
 out:=ho
def Sound (D:List Deferred) (P:Program) (n:Nat) (h0:Heap) (w0:World) (o:Oper) (a:Act) (w:World) (e:Env) (K:Slot->Bx->Heap->Prop) (E:List PanicEntry->Heap->Prop):Prop :=
 ∀(next:Act->World->Prop) (Q:Exit->Act->World->Prop),
  (∀ s bx h' qU a' w',K s bx h'->Rel D n h0 w0 qU (e.put o.dst s bx) h' a' w'->next a' w') ->
  (∀ c h' a' w',E c h'->cP h0 w0 h' w'->a'.defers=D->Q (.panic c) a' w')->o.wp P a w next Q
variable {P:Program} {S:nH} {o:Oper} {K:Slot->Bx->Heap->Prop} {E:List PanicEntry->Heap->Prop}
theorem jn (r:Rel D n h0 w0 β e h a w) (hd:∀ d',o.dst=some d'->d' < n) {v:Value} {w':World} (hr:(execOp a.eval o).run P w=.ok (.value v) w')
  {h':Heap} (m:cP h w h' w') {s:Slot} (hs:lR β e s v) (hK:K s none h'):Sound D P n h0 w0 o a w e K E:=by
 intro next Q h1 h2;unfold Oper.wp;rw[hr];exact h1 s none h' β _ w' hK (r.put m o.dst hd hs)
theorem xG (r:Rel D n h0 w0 β e h a w) (hd:∀ d',o.dst=some d'->d' < n) {w':World} (hr:(execOp a.eval o).run P w=.ok .skip w')
  {h':Heap} (m:cP h w h' w') (hK:K (.v undef) none h'):Sound D P n h0 w0 o a w e K E:=by
 intro next Q h1 h2;unfold Oper.wp;rw[hr];exact h1 (.v undef) none h' β _ w' hK (r.put m o.dst hd rfl)
theorem iY (r:Rel D n h0 w0 β e h a w) (hd:∀ d',o.dst=some d'->d' < n) {v:Value} (hr:(execOp a.eval o).run P w=.ok (.value v) w)
  {s:Slot} (hs:lR β e s v) (hK:K s none h):Sound D P n h0 w0 o a w e K E :=
 jn r hd hr (cP.refl r.mv.view) hs hK
theorem bM (r:Rel D n h0 w0 β e h a w) (hd:∀ d',o.dst=some d'->d' < n) {v:Value} (hr:(execOp a.eval o).run P w=.ok (.value v) w)
  (hK:K (.v v) none h):Sound D P n h0 w0 o a w e K E :=
 jn r hd hr (cP.refl r.mv.view) (s:=.v v) rfl hK
theorem zH (r:Rel D n h0 w0 β e h a w) (hd:∀ d',o.dst=some d'->d' < n) {d:Nat} (Sj:o.dst=some d) (U:e.b d=none) {cs:List Value} {ty:TypeId} {v:Value}
  (hr:(execOp a.eval o).run P w=.ok (.value v) {w with heap:=w.heap.push (.cells cs.toArray ty (0,0))}) {s:Slot}
  (hs:(s=.l d 0/\v=.pointer (some ⟨w.heap.size,0,none⟩))\/(∃ k,s=.r d k/\v=.slice (some ⟨w.heap.size,0,none⟩) k k)) (hK:K s (some (d,cs)) h):Sound D P n h0 w0 o a w e K E:=by
 intro next Q h1 h2;unfold Oper.wp;rw[hr];have:=r.Pq d (hd d Sj) U cs ty hs;rw[<-Sj]at this;exact h1 s _ h _ _ _ hK this
theorem oK {F:Fs} {d:Option Nat} {d':Nat} (h:isLocal F d=some d'):d=some d':=by
 unfold isLocal at h;split at h
 ·split at h
  ·simpa using h
  ·cases h
 ·cases h
theorem bJ (l:List Value) (K:List Value->Prop):kE l K↔K l:=by
 induction l generalizing K with
 | nil=>exact Iff.rfl
 | cons a r ih=>exact ih (λr'=>K (a::r'))
theorem tK (r:Rel D n h0 w0 β e h a w) (hd:∀ d',o.dst=some d'->d' < n) {F:Fs} {t:TypeId} {cs:List Value}
  (hr:(execOp a.eval o).run P w=.ok (.value (.pointer (some ⟨w.heap.size,0,none⟩))) {w with heap:=w.heap.push (.cells cs.toArray t)})
  (hx:newVar F t o.dst cs e h K):Sound D P n h0 w0 o a w e K E:=by
 unfold newVar at hx;split at hx
 ·rename_i d hl;have hl:=oK hl;split at hx
  ·rename_i U;rw[bJ]at hx;exact zH r hd hl U (ty:=t) hr (.inl ⟨rfl,rfl⟩) hx
  ·exact hx.elim
 ·rw[oF]at hx;unfold Av at hx;exact jn r hd hr (cP.push r.mv.view _) (s:=.v (.pointer (some ⟨w.heap.size,0,none⟩))) rfl (hx _ r.fresh)
theorem Az (r:Rel D n h0 w0 β e h a w) (hd:∀ d',o.dst=some d'->d' < n) {F:Fs} {t:TypeId} {cs:List Value} {k:Nat}
  (hr:(execOp a.eval o).run P w=.ok (.value (.slice (some ⟨w.heap.size,0,none⟩) k k)) {w with heap:=w.heap.push (.cells cs.toArray t)})
  (hx:newRow F t o.dst k cs e h K):Sound D P n h0 w0 o a w e K E:=by
 unfold newRow at hx;split at hx
 ·rename_i d hl;have hl:=oK hl;split at hx
  ·rename_i U;rw[bJ]at hx;exact zH r hd hl U (ty:=t) hr (.inr ⟨k,rfl,rfl⟩) hx
  ·exact hx.elim
 ·rw[oF]at hx;unfold Av at hx;exact jn r hd hr (cP.push r.mv.view _) (s:=.v (.slice (some ⟨w.heap.size,0,none⟩) k k)) rfl (hx _ r.fresh)
theorem qV (hv:∀ b o,h b=some o->w.heap[b]? = some o) {b off:Nat} {v:Value} (hr:rd h b off=some v):w.cell? ⟨b,off,none⟩=some v:=by
 unfold rd at hr;split at hr
 ·rename_i c t f U;simp[World.cell?,hv _ _ U,hr]
 ·cases hr
theorem kZ (b off i:Nat):(⟨b,off,none⟩:Addr).add i=⟨b,off+i,none⟩:=by
 unfold Addr.add;split
 ·rename_i hh;simp[hh]
 ·rfl
theorem run_loadCells (vs:List Value):∀(b off i:Nat) (acc:Array Value),(∀ j v,vs[j]? = some v->w.cell? ⟨b,off+(i+j),none⟩=some v) ->
  (loadCellsFrom ⟨b,off,none⟩ i vs.length acc).run P w=.ok (acc++vs.toArray) w:=by
 induction vs with
 | nil=>intro b off i acc _;simp[loadCellsFrom]
 | cons v vs ih =>
  intro b off i acc hc;have h1:=hc 0 v rfl;simp only[List.length_cons,loadCellsFrom,Sem.run_bind,run_load,kZ];rw[show off+i=off+(i+0)from rfl,h1];simp only[Result.andThen_ok];rw[ih b off (i+1) (acc.push v) (λj u hj=>by have:=hc (j+1) u (by simpa using hj);rw[show i+1+j=i+(j+1)by omega];exact this)];simp
theorem qg {b:Nat}:∀(n off:Nat) (vs:List Value),eG h b off n=some vs->vs.length=n/\∀ j v,vs[j]? = some v->rd h b (off+j)=some v:=by
 intro n;induction n with
 | zero=>intro off vs hr;simp[eG]at hr;subst hr;simp
 | succ n ih =>
  intro off vs hr;simp only[eG]at hr;split at hr
  ·rename_i v r h1 h2;simp only[Option.some.injEq]at hr;subst hr;obtain⟨h3,h4⟩:=ih _ _ h2;refine⟨by simp[h3],λj u hj=>?_⟩;cases j with
   | zero=>simp at hj;subst hj;exact h1
   | succ j=>simp at hj;rw[show off+(j+1)=off+1+j by omega];exact h4 j u hj
  ·cases hr
theorem qW:∀(n:Nat) (l vs:List Value),take n l=some vs->vs=l.take n/\n<=l.length
 | 0,l,vs,h=>by simp[take]at h;simp[h]
 | n+1,[],vs,h=>by simp[take]at h
 | n+1,a::r,vs,h=>by
  simp only[take]at h;split at h
  ·rename_i t ht;simp only[Option.some.injEq]at h;obtain⟨h1,h2⟩:=qW n r t ht;subst h;simp[h1,h2]
  ·cases h
theorem drop_eq:∀(n:Nat) (l:List Value),drop n l=l.drop n
 | 0,l=>rfl
 | n+1,[]=>rfl
 | n+1,_::r=>by simp[drop,drop_eq n r]
theorem vh:∀(l:List Value) (i:Nat) (v:Value),Ly l i v=l.set i v
 | [],i,v=>by simp[Ly]
 | a::r,0,v=>rfl
 | a::r,i+1,v=>by simp[Ly,vh r i v]
theorem v9:∀(vs l:List Value) (off:Nat),(ep l off vs).length=l.length
 | [],l,off=>rfl
 | v::r,l,off=>by simp[ep,v9 r,vh]
theorem Ci (r:Rel D n h0 w0 β e h a w) {t:Nat} {cs:List Value} (U:e.b t=some cs) {off:Nat} {v:Value} (hv:cs[off]? = some v):w.cell? ⟨β t,off,none⟩=some v:=by
 obtain⟨⟨ty,h1⟩,_,_⟩:=r.box t cs U;simp[World.cell?,h1,hv]
theorem Ed {t off k:Nat} {vs:List Value} (hr:xC e t off k=some vs):∃ cs,e.b t=some cs/\vs.length=k/\∀ j v,vs[j]? = some v->cs[off+j]? = some v:=by
 unfold xC at hr;split at hr
 ·rename_i cs U;obtain⟨h1,h2⟩:=qW _ _ _ hr;rw[drop_eq]at h1 h2;refine⟨cs,U,by rw[h1];simp at h2 ⊢;omega,λj v hj=>?_⟩;rw[h1]at hj;have FK:j < k:=by
   have:=(List.getElem?_eq_some_iff.1 hj).1;simp at this;omega
  rw[List.getElem?_take_of_lt FK,List.getElem?_drop]at hj;exact hj
 ·cases hr
theorem zI (hS:dn P S) (r:Rel D n h0 w0 β e h a w) {t:TypeId} {ti:TI} {x:Operand}
  (cO:S.ty.find t=some ti) (hx:load ti (e.get x) e h K):∃ ad v,a.eval x=.pointer (some ad)/\(loadVar t ad).run P w=.ok v w/\K (.v v) none h:=by
 have sr:=r.mW x;have key:∀(b off:Nat) (vs:List Value),a.eval x=.pointer (some ⟨b,off,none⟩)->vs.length=ti.size->(∀ j v,vs[j]? = some v->w.cell? ⟨b,off+j,none⟩=some v) ->
   (ti.agg=true->K (.v (.agg ⟨vs⟩)) none h)->(ti.agg=false->∀ v,vs=[v]->K (.v v) none h)->(ti.agg=false->∃ v,vs=[v])->∃ ad v,a.eval x=.pointer (some ad)/\(loadVar t ad).run P w=.ok v w/\K (.v v) none h:=by
  intro b off vs he hlen hc h1 h2 h3;have hl:=run_loadCells (P:=P) (w:=w) vs b off 0 #[] (λj v hj=>by rw[Nat.zero_add];exact hc j v hj);rw[hlen]at hl;cases iZ:ti.agg with
  | true =>
   refine⟨_,.agg ⟨vs⟩,he,?_,h1 iZ⟩;simp only[loadVar,Sem.run_bind,qT hS cO,Result.andThen_ok,iZ,if_true,run_sizeOf hS cO,loadCells,hl];simp
  | false =>
   obtain⟨v,rfl⟩:=h3 iZ;refine⟨_,v,he,?_,h2 iZ v rfl⟩;have:=hc 0 v rfl;simp only[Nat.add_zero]at this;simp[loadVar,qT hS cO,iZ,this]
 unfold load at hx;split at hx
 ·rename_i u off hu;rw[hu]at sr;split at hx
  ·rename_i vs iT;obtain⟨cs,U,hlen,hc⟩:=Ed iT;refine key (β u) off vs sr.1 hlen (λj v hj=>Ci r U (hc j v hj)) (λiZ=>?_) (λiZ v hv=>?_) (λiZ=>?_)
   ·simp only[iZ]at hx;rwa [bJ]at hx
   ·simp only[iZ,hv]at hx;exact hx
   ·simp only[iZ]at hx;split at hx
    ·exact⟨_,rfl⟩
    ·exact hx.elim
  ·exact hx.elim
 ·rename_i b off hu;rw[hu]at sr;cases iZ:ti.agg with
  | true =>
   simp only[iZ]at hx;rw[tF]at hx;unfold D7 at hx;obtain⟨vs,iT,hK⟩:=hx;obtain⟨hlen,hc⟩:=qg _ _ _ iT;exact key b off vs sr hlen (λj v hj=>qV r.mv.view (hc j v hj)) (λ_=>hK) (λh=>by rw[iZ]at h;cases h) (λh=>by rw[iZ]at h;cases h)
  | false =>
   simp only[iZ]at hx;split at hx
   ·rename_i hsz;rw[xz]at hx;unfold Pj at hx;obtain⟨v,hv,hK⟩:=hx;refine key b off [v] sr (by simp[hsz]) (λj u hj=>?_) (λh=>by rw[iZ]at h;cases h) (λ_ u hu=>by simp at hu;subst hu;exact hK) (λ_=>⟨v,rfl⟩);cases j with
    | zero=>simp at hj;subst hj;exact qV r.mv.view hv
    | succ j=>simp at hj
   ·exact hx.elim
 ·exact hx.elim
theorem xH (hS:dn P S) (r:Rel D n h0 w0 β e h a w) (hd:∀ d',o.dst=some d'->d' < n) {t:TypeId} {ti:TI} {x:Operand} (ho:o.op=.load t x)
  (cO:S.ty.find t=some ti) (hx:load ti (e.get x) e h K):Sound D P n h0 w0 o a w e K E:=by
 obtain⟨ad,v,h1,h2,h3⟩:=zI hS r cO hx;exact bM r hd (by simp[execOp,ho,h1,Instr.loadAt,Instr.sureAddr,h2]) h3
theorem Ee {v:Value} (hv:lP v=true):v.oneCell'=true:=by cases v<;>simp_all [lP,Value.oneCell']
theorem Ix {w:World} {b:Nat} {o:Obj} (U:w.heap[b]? = some o):w.heap.setIfInBounds b o=w.heap:=by
 apply Array.ext_getElem?
 intro i;rw[Array.getElem?_setIfInBounds];split
 ·rename_i hh;subst hh;simp[ey U,(Array.getElem?_eq_some_iff.1 U).2]
 ·rfl
theorem AA {w:World} {b off:Nat} {cs:Array Value} {ty:TypeId} (U:w.heap[b]? = some (.cells cs ty (0,0))) (v:Value) :
  (w.setCell ⟨b,off,none⟩ v).heap=w.heap.setIfInBounds b (.cells (cs.setIfInBounds off v) ty (0,0)):=by
 apply Array.ext_getElem?
 intro i;simp only[World.setCell,Array.getElem?_modify,Array.getElem?_setIfInBounds];by_cases hi:b=i
 ·subst hi;have hg:=(Array.getElem?_eq_some_iff.1 U).2;simp[ey U,hg]
 ·simp[hi]
theorem gR (b:Nat) (ty:TypeId):∀(vs:List Value) (off i:Nat) (w:World) (cs:Array Value),w.heap[b]? = some (.cells cs ty (0,0))->off+i+vs.length<=cs.size->dG vs=true ->
  ∃ w',(storeCells ⟨b,off,none⟩ vs i).run P w=.ok () w'/\w'.heap=w.heap.setIfInBounds b (.cells (ep cs.toList (off+i) vs).toArray ty (0,0))/\w'.os=w.os/\w'.tape=w.tape/\w'.output=w.output:=by
 intro vs;induction vs with
 | nil =>
  intro off i w cs U hl _;refine⟨w,by simp[storeCells],?_,rfl,rfl,rfl⟩;simp only[ep];rw[show cs.toList.toArray=cs from rfl,Ix U]
 | cons v vs ih =>
  intro off i w cs U hl ez;simp only[dG]at ez;split at ez
  ·rename_i hv;have hcell:w.cell? ⟨b,off+i,none⟩=some (cs[off+i]'(by simp at hl;omega)):=by simp[World.cell?,U]
   have hfz:w.frozen? ⟨b,off+i,none⟩=false:=by simp[World.frozen?,U]
   have jO:=AA (off:=off+i) U v;have bz:(w.setCell ⟨b,off+i,none⟩ v).heap[b]? = some (.cells (cs.setIfInBounds (off+i) v) ty (0,0)):=by
    rw[jO];simp[ey U]
   obtain⟨w',h1,h2,h2o⟩:=ih off (i+1) _ (cs.setIfInBounds (off+i) v) bz (by simp at hl ⊢;omega) ez;refine⟨w',?_,?_,h2o⟩
   ·simp only[storeCells,Sem.run_bind,kZ,run_store P w _ v .plain (Ee hv),hcell,hfz];simpa using h1
   ·rw[h2,jO];simp only[ep,vh,Array.toList_setIfInBounds];apply Array.ext_getElem?
    intro k;simp only[Array.getElem?_setIfInBounds];by_cases hk:b=k
    ·subst hk;simp[ey U];rfl
    ·simp[hk]
  ·cases ez
theorem Rel.Sk (r:Rel D n h0 w0 β e h a w) (d:Option Nat) (hd:∀ d',d=some d'->d' < n) {t:Nat} {cs jt:List Value} {ty:TypeId} (U:e.b t=some cs)
  (Mg:w.heap[β t]? = some (.cells cs.toArray ty (0,0))) {w':World} (hw:w'.heap=w.heap.setIfInBounds (β t) (.cells jt.toArray ty (0,0))) (ho:w'.os=w.os/\w'.tape=w.tape/\w'.output=w.output) :
  Rel D n h0 w0 β (e.put d (.v undef) (some (t,jt))) h (a.put d undef) w' where
 size:=by rw[xF,r.size]
 xD:=by rw[put_defers,r.xD]
 slot u:=by
  rw[xE a d undef u (by rw[r.size];exact hd)];have aux:∀ s v,lR β e s v->lR β (e.put d (.v undef) (some (t,jt))) s v:=by
   intro s v;cases s with
   | v x=>exact id
   | x=>exact id
   | l k off=>intro ⟨h1,h2⟩;refine⟨h1,?_⟩;simp only[Env.put];split<;>simp_all
   | r k m=>intro ⟨h1,h2⟩;refine⟨h1,?_⟩;simp only[Env.put];split<;>simp_all
  cases d with
  | none=>exact aux _ _ (r.slot u)
  | some d' =>
   by_cases hh:u=d'
   ·simp only[hh,if_true,Env.put];rfl
   ·have:=aux _ _ (r.slot u);simp only[hh,if_false,Env.put]at this ⊢;exact this
 box u ds hu:=by
  simp only[Env.put]at hu;have iS:=ey Mg;obtain⟨_,h2,h3⟩:=r.box t cs U;by_cases hh:u=t
  ·simp only[hh,if_true,Option.some.injEq]at hu;subst hu;subst hh;exact⟨⟨ty,by rw[hw];simp[iS]⟩,h2,h3⟩
  ·simp only[hh,if_false]at hu;obtain⟨⟨Pr,h4⟩,h5,h6⟩:=r.box u ds hu;refine⟨⟨Pr,?_⟩,h5,h6⟩;rw[hw,Array.getElem?_setIfInBounds,if_neg]
   ·exact h4
   ·intro GH;exact hh (r.inj u t (by simp[hu]) (by simp[U]) GH.symm)
 inj u k hu hk GH:=by
  refine r.inj u k ?_ ?_ GH
  ·simp only[Env.put]at hu;split at hu<;>simp_all
  ·simp only[Env.put]at hk;split at hk<;>simp_all
 mv:={
  view:=λb o mS=>by
   rw[hw,Array.getElem?_setIfInBounds,if_neg]
   ·exact r.mv.view b o mS
   ·intro GH;subst GH;rw[(r.box t cs U).2.1]at mS;cases mS
  aG:=λb bz hn=>by
   rw[hw,Array.getElem?_setIfInBounds,if_neg]
   ·exact r.mv.aG b bz hn
   ·intro GH;have:=(r.box t cs U).2.2;omega
  xd:=r.mv.xd
  size:=by rw[hw];simp;exact r.mv.size
  fz:=λb RL t2 z eX=>by
   rw[hw]at eX;exact(FJ (λ_ _ _ h=>by cases h;rfl) eX).elim .inl (r.mv.fz b RL t2 z)
  out:=⟨ho.1.trans r.mv.out.1,ho.2.1.trans r.mv.out.2.1,ho.2.2.trans r.mv.out.2.2⟩}
theorem oL {ti:TI} {v:Value} {Kc:List Value->Prop} (hx:kY ti v Kc):∃ vs,Kc vs/\((ti.agg=true/\v=.agg ⟨vs⟩/\vs.length=ti.size)\/(ti.agg=false/\vs=[v]/\lP v=true)):=by
 unfold kY at hx;split at hx
 ·rename_i iZ;split at hx
  ·rename_i cs;rw[bJ]at hx;split at hx
   ·rename_i hl;exact⟨cs.toList,hx,.inl ⟨iZ,rfl,Nat.eq_of_beq_eq_true hl⟩⟩
   ·exact hx.elim
  ·exact hx.elim
 ·rename_i iZ;split at hx
  ·rename_i hv;exact⟨[v],hx,.inr ⟨iZ,rfl,hv⟩⟩
  ·exact hx.elim
theorem AB {v:Value} (hv:lP v=true):v.cells = #[v]:=by cases v<;>simp_all [lP,Value.cells]
theorem nI {ti:TI} {v:Value} {vs:List Value} (hsz:ti.agg=false->ti.size=1)
  (hv:(ti.agg=true/\v=.agg ⟨vs⟩/\vs.length=ti.size)\/(ti.agg=false/\vs=[v]/\lP v=true)):v.cells=⟨vs⟩/\vs.length=ti.size:=by
 rcases hv with ⟨h1,h2,h3⟩|⟨h1,h2,h3⟩
 ·exact⟨by rw[h2];rfl,h3⟩
 ·subst h2;exact⟨AB h3,by simp[hsz h1]⟩
theorem Cj (hS:dn P S) (r:Rel D n h0 w0 β e h a w) (hd:∀ d',o.dst=some d'->d' < n) {t:TypeId} {ti:TI} {x y:Operand} {v:Value} (ho:o.op=.store t x y)
  (cO:S.ty.find t=some ti) (hy:e.get y=.v v) (hx:store ti (e.get x) v e h K):Sound D P n h0 w0 o a w e K E:=by
 have sr:=r.mW x;have hsz:=hS.one t ti cO;unfold store at hx;obtain⟨vs,hx,iT⟩:=oL hx;split at hx
 ·exact hx.elim
 rename_i ez;obtain⟨qh,hlen⟩:=nI hsz iT;have eM:∀ b off w',a.eval x=.pointer (some ⟨b,off,none⟩)->(storeCells ⟨b,off,none⟩ vs).run P w=.ok () w'->(execOp a.eval o).run P w=.ok .skip w':=by
  intro b off w' he hs;simp[execOp,ho,he,r.eval hy,Instr.storeAt,Instr.sureAddr,storeVar,run_sizeOf hS cO,qh,hlen,hs]
 split at hx
 ·rename_i u off hu;rw[hu]at sr;split at hx
  ·rename_i cs U;split at hx
   ·rename_i hle;have hle:=Nat.le_of_ble_eq_true hle;rw[bJ]at hx;obtain⟨⟨ty,h1⟩,h2,h3⟩:=r.box u cs U;obtain⟨w',Iy,Ck,Mh⟩:=gR (P:=P) (β u) ty vs off 0 w cs.toArray h1 (by simpa using hle) ez;intro next Q hk hE;unfold Oper.wp;rw[eM _ _ _ sr.1 Iy];exact hk _ _ h β _ w' hx (r.Sk o.dst hd U h1 (by simpa using Ck) Mh)
   ·exact hx.elim
  ·exact hx.elim
 ·rename_i b off hu;rw[hu]at sr;rw[D9]at hx;unfold Sg at hx;obtain⟨cs,ty,U,hle,hK⟩:=hx;obtain⟨w',Iy,Ck,Mh⟩:=gR (P:=P) b ty vs off 0 w cs (r.mv.view _ _ U) (by simpa using hle) ez;refine xG r hd (eM _ _ _ sr Iy) (cP.Iw r.mv.view U _ (by simpa using Ck) Mh) hK
 ·exact hx.elim
theorem Cl (hS:dn P S) (r:Rel D n h0 w0 β e h a w) (hd:∀ d',o.dst=some d'->d' < n) {F:Fs} {t:TypeId} {ti:TI} {x:Operand} {v:Value} (ho:o.op=.box t x)
  (cO:S.ty.find t=some ti) (hv:e.get x=.v v) (hx:kY ti v λcs=>newVar F t o.dst cs e h K):Sound D P n h0 w0 o a w e K E:=by
 obtain⟨vs,hx,iT⟩:=oL hx;obtain⟨qh,hlen⟩:=nI (hS.one t ti cO) iT;refine tK r hd ?_ hx;simp[execOp,ho,r.eval hv,Instr.box,Go.newVar,Go.newRow,qh]
theorem Cm (hS:dn P S) (r:Rel D n h0 w0 β e h a w) (hd:∀ d',o.dst=some d'->d' < n) {F:Fs} {t:TypeId} {ti:TI} (ho:o.op=.alloc t)
  (cO:S.ty.find t=some ti) (hx:newVar F t o.dst ti.zero e h K):Sound D P n h0 w0 o a w e K E:=by
 refine tK r hd ?_ hx;obtain⟨z,hz,hc⟩:=j9 hS cO w;have:z.cells=ti.zero.toArray:=by rw[<-hc]
 simp[execOp,ho,Instr.alloc,Go.newVar,Go.newRow,hz,this]
theorem xI:∀(vs:List Value) (off k:Nat) (cs:Array Value),
  ((vs.zipIdx k).foldl (λcs (c,j)=>cs.setIfInBounds (off+j) c) cs).toList=ep cs.toList (off+k) vs
 | [],off,k,cs=>rfl
 | v::vs,off,k,cs=>by
  simp only[List.zipIdx_cons,List.foldl_cons,ep,vh];rw[xI vs off (k+1) (cs.setIfInBounds (off+k) v)];simp[Nat.add_assoc]
theorem vj (pl:Nat->Option Nat) (place:Nat->Option (Nat × Nat)):∀(ps:List (Nat × Value)) (qs:List (Nat × List Value)) (cs:Array Value) (out:List Value),
  oG pl cs.toList qs=some out->ps.length=qs.length ->
  (∀ i (hi:i < ps.length) (hj:i < qs.length),qs[i].1=ps[i].1/\(ps[i].2).cells=⟨qs[i].2⟩/\∀ off,pl ps[i].1=some off->place ps[i].1=some (off,qs[i].2.length)) ->
  Instr.fill place cs ps=some out.toArray
 | [],[],cs,out,h,_,_=>by simp[oG]at h;simp[Instr.fill,<-h]
 | [],_::_,_,_,_,h,_=>by simp at h
 | _::_,[],_,_,_,h,_=>by simp at h
 | (i,v)::ps,(j,vs)::qs,cs,out,h,hl,dQ=>by
  have h0:=dQ 0 (by simp) (by simp);simp only[List.getElem_cons_zero]at h0;obtain⟨Y1,hc,hp⟩:=h0;subst Y1;simp only[oG]at h;split at h
  ·rename_i off ho;split at h
   ·rename_i hle;have hle:=Nat.le_of_ble_eq_true hle;simp only[Instr.fill,hp off ho,hc];have hf:=xI vs off 0 cs;have hsz:¬(vs.length≠vs.length||decide (off+vs.length > cs.size))=true:=by simp at hle ⊢;omega
    simp only[List.size_toArray];rw[if_neg (by simpa using hle)];refine vj pl place ps qs _ out ?_ (by simpa using hl) (λk hk Ef=>?_)
    ·rw[<-h];congr 1
     rw[<-Nat.add_zero off,<-hf];simp[Array.foldl_toList]
    ·have:=dQ (k+1) (by simpa using hk) (by simpa using Ef);simpa using this
   ·cases h
  ·cases h
theorem sE {rQ:Nat->Option TI}:∀(ps:List (Nat × Operand)) (Kp:List (Nat × List Value)->Prop),parts e rQ ps Kp ->
  ∃ qs,Kp qs/\qs.length=ps.length/\∀ i (hi:i < ps.length) (hj:i < qs.length),qs[i].1=ps[i].1/\∃ v ti,e.get ps[i].2=.v v/\rQ ps[i].1=some ti /\
   ((ti.agg=true/\v=.agg ⟨qs[i].2⟩/\qs[i].2.length=ti.size)\/(ti.agg=false/\qs[i].2=[v]/\lP v=true))
 | [],Kp,h=>⟨[],h,rfl,λi hi=>by simp at hi⟩
 | (k,x)::ps,Kp,h=>by
  simp only[parts]at h;split at h
  ·rename_i v ti hv cO;obtain⟨vs,h,iT⟩:=oL h;obtain⟨qs,h1,h2,h3⟩:=sE ps _ h;refine⟨(k,vs)::qs,h1,by simp[h2],λi hi hj=>?_⟩;cases i with
   | zero=>exact⟨rfl,v,ti,hv,cO,iT⟩
   | succ i=>exact h3 i (by simpa using hi) (by simpa using hj)
  ·exact h.elim
theorem FL (z:List Value):∀ n,tH n z=(List.replicate n z).flatten
 | 0=>rfl
 | n+1=>by simp[tH,List.replicate_succ,FL z n]
theorem Cn (z:List Value) (hz:0 < z.length):∀(n i:Nat),i < n*z.length->((List.replicate n z).flatten)[i]? = z[i % z.length]?
 | 0,i,h=>by simp at h
 | n+1,i,h=>by
  rw[List.replicate_succ,List.flatten_cons];by_cases hi:i < z.length
  ·rw[List.getElem?_append_left hi,Nat.mod_eq_of_lt hi]
  ·rw[List.getElem?_append_right (by omega),Cn z hz n (i-z.length) (by rw[Nat.succ_mul]at h;omega)];congr 1
   rw[<-Nat.mod_eq_sub_mod (by omega)]
theorem tL (z:List Value) (n:Nat):((List.replicate n z).flatten).length=n*z.length:=by simp
theorem xJ (z:Array Value) (n:Nat):(Array.range (n*z.size)).map (λi=>z[i % z.size]!)=((List.replicate n z.toList).flatten).toArray:=by
 by_cases hz:0 < z.size
 ·apply Array.ext_getElem?
  intro i;by_cases hi:i < n*z.size
  ·simp only[Array.getElem?_map,List.getElem?_toArray];rw[Cn z.toList (by simpa using hz) n i (by simpa using hi)];have hm:i % z.size < z.size:=Nat.mod_lt _ hz;simp[hi,hm]
  ·rw[Array.getElem?_eq_none (by simp;omega),List.getElem?_toArray,List.getElem?_eq_none (by simp;omega)]
 ·have h0:z.size=0:=by omega
  have h1:z.toList=[]:=by simpa using h0
  simp[h0,h1]
theorem we (hS:dn P S):∀(fs:List Field),(∀ f∈fs,(S.ty.find f.type).isSome) ->
  ∃ l:List (Nat × Nat),(∀ w:World,(fs.mapM (λ(f:Field)=>(do pure (f.offset,<-Go.sizeOf f.type):Sem (Nat × Nat)))).run P w=.ok l w)/\l.length=fs.length /\
   ∀ i (hi:i < fs.length) ti,S.ty.find (fs[i]).type=some ti->l[i]? = some ((fs[i]).offset,ti.size)
 | [],_=>⟨[],λw=>by simp,rfl,λi hi=>by simp at hi⟩
 | f::fs,dQ=>by
  obtain⟨l,h1,h2,h3⟩:=we hS fs (λg hg=>dQ g (by simp[hg]));obtain⟨ti,cO⟩:=Option.isSome_iff_exists.1 (dQ f (by simp));refine⟨(f.offset,ti.size)::l,λw=>?_,by simp[h2],λi hi tj hj=>?_⟩
  ·rw[List.mapM_cons];simp only[Sem.run_bind,run_sizeOf hS cO,Result.andThen_ok,Sem.run_pure,h1]
  ·cases i with
   | zero=>simp only[List.getElem_cons_zero]at hj ⊢;rw[cO]at hj;simp only[Option.some.injEq]at hj;subst hj;rfl
   | succ i=>simp only[List.getElem_cons_succ,List.getElem?_cons_succ]at hj ⊢;exact h3 i (by simpa using hi) tj hj
theorem Co (hS:dn P S) (r:Rel D n h0 w0 β e h a w) (hd:∀ d',o.dst=some d'->d' < n) {t:TypeId} {ps:Array (Nat × Operand)} (ho:o.op=.build t ps)
  (hx:Pm S t ps.toList e λv=>K (.v v) none h):Sound D P n h0 w0 o a w e K E:=by
 unfold Pm at hx;split at hx
 ·rename_i ti cO;split at hx
  ·exact hx.elim
  rename_i pl rQ fV;obtain⟨qs,hx,hlen,N0⟩:=sE _ _ hx;split at hx
  ·rename_i cs hcs;rw[bJ]at hx;obtain⟨z,hz,Iz⟩:=j9 hS cO w;obtain⟨d,ng,iZ,qi⟩:=cS hS cO w;refine iY r hd (v:=.agg ⟨cs⟩) ?_ (s:=.v (.agg ⟨cs⟩)) rfl hx;have zJ:∀ place:Nat->Option (Nat × Nat),(∀ i Mi,rQ i=some Mi->∀ off,pl i=some off->place i=some (off,Mi.size)) ->
     Instr.fill place z.cells (ps.map λ(i,x)=>(i,a.eval x)).toList=some cs.toArray:=by
    intro place hp;refine vj pl place _ qs z.cells cs (by rw[Iz];exact hcs) (by simp[hlen]) (λi hi hj=>?_);have wg:i < ps.toList.length:=by simpa using hi
    obtain⟨h1,v,Mi,h2,h3,h4⟩:=N0 i wg hj;have Y2:Mi.agg=false->Mi.size=1:=by
     unfold Ea at fV;split at fV
     ·simp only[Option.some.injEq,Prod.mk.injEq]at fV;rw[<-fV.2]at h3;simp only at h3;split at h3
      ·exact hS.one _ _ h3
      ·cases h3
     ·simp only[Option.some.injEq,Prod.mk.injEq]at fV;rw[<-fV.2]at h3;exact hS.one _ _ h3
     ·cases fV
    obtain⟨h5,h6⟩:=nI Y2 h4;simp only[Array.toList_map,List.getElem_map];refine⟨h1,?_,λoff ho=>?_⟩
    ·rw[r.eval h2];exact h5
    ·rw[h6];exact hp _ _ h3 off ho
   unfold Ea at fV;have eM:(execOp a.eval o).run P w=((Instr.build t (ps.map λ(i,x)=>(i,a.eval x))).run P w).andThen (λv w'=>.ok (.value v) w'):=by
    simp[execOp,ho]
   rw[eM];split at fV
   ·rename_i fs sF;simp only[Option.some.injEq,Prod.mk.injEq]at fV;cases d<;>simp only[mT,sF]at qi<;>try cases qi
    rename_i fields;obtain⟨l,jN,hl2,sG⟩:=we hS fields.toList (λf hf=>by
     obtain⟨tj,Lz,_⟩:=hS.cX t ti _ cO sF (f.offset,f.type) (List.mem_map.2 ⟨f,hf,rfl⟩);simp only at Lz;simp[Lz])
    have:=zJ (λi=>l.toArray[i]?) (λi Mi h3 off h4=>by
     rw[<-fV.2]at h3;rw[<-fV.1]at h4;simp only[List.getElem?_map]at h3 h4;by_cases hi:i < fields.toList.length
     ·rw[List.getElem?_eq_getElem hi]at h3 h4;simp only[Option.map_some,Option.some.injEq]at h3 h4;rw[List.getElem?_toArray,sG i hi Mi h3,h4]
     ·rw[List.getElem?_eq_none (by omega)]at h3;cases h3)
    simp only[Instr.build,Sem.run_bind,hz,ng,Result.andThen_ok];have hm:∀ w,(fields.mapM (λ(f:Field)=>(do pure (f.offset,<-Go.sizeOf f.type):Sem (Nat × Nat)))).run P w=.ok l.toArray w:=by
     intro w;rw[Array.mapM_eq_mapM_toList,Sem.run_map,jN w];rfl
    rw[hm];simp only[Result.andThen_ok,this,Sem.run_pure]
   ·rename_i k el sF;simp only[Option.some.injEq,Prod.mk.injEq]at fV;cases d<;>simp only[mT,sF]at qi<;>try cases qi
    obtain⟨te,iL⟩:=Option.isSome_iff_exists.1 (hS.elems t ti _ _ cO sF);have:=zJ (λi=>some (i*te.size,te.size)) (λi Mi h3 off h4=>by
     rw[<-fV.2]at h3;rw[<-fV.1]at h4;simp only[iL,Option.some.injEq]at h3 h4;subst h3;split at h4
     ·simp only[Option.some.injEq]at h4;rw[h4]
     ·cases h4)
    simp only[Instr.build,Sem.run_bind,hz,ng,Result.andThen_ok,run_sizeOf hS iL,this,Sem.run_pure]
   ·cases fV
  ·exact hx.elim
 ·exact hx.elim
theorem vk (hS:dn P S) (r:Rel D n h0 w0 β e h a w) (hd:∀ d',o.dst=some d'->d' < n) {F:Fs} {t el:TypeId} {k:Nat} {ti te:TI} {ps:Array (Nat × Operand)} (ho:o.op=.buildSlice t k ps)
  (cO:S.ty.find t=some ti) (qi:ti.d=.sl el) (iL:S.ty.find el=some te) (hle:k*te.size<=16777216)
  (hx:parts e (λ_=>some te) ps.toList λvs=>match oG (λi=>some (i*te.size)) (tH k te.zero) vs with
     | some cs=>newRow F el o.dst k cs e h K
     | none=>False):Sound D P n h0 w0 o a w e K E:=by
 obtain⟨qs,hx,hlen,N0⟩:=sE _ _ hx;split at hx
 ·rename_i cs hcs;refine Az r hd ?_ hx;obtain⟨d,ng,iZ,fj⟩:=cS hS cO w;rw[qi]at fj;cases d<;>simp only[mT]at fj<;>try cases fj
  obtain⟨z,hz,Iz⟩:=j9 hS iL w;have Sl:z.cells.size=te.size:=by rw[<-hS.zero _ _ iL,<-Iz];simp
  have zJ:Instr.fill (λi=>some (i*te.size,te.size)) ((List.replicate k te.zero).flatten).toArray (ps.map λ(i,x)=>(i,a.eval x)).toList=some cs.toArray:=by
   refine vj (λi=>some (i*te.size)) _ _ qs _ cs (by rw[<-FL];exact hcs) (by simp[hlen]) (λi hi hj=>?_);have wg:i < ps.toList.length:=by simpa using hi
   obtain⟨h1,v,Mi,h2,h3,h4⟩:=N0 i wg hj;simp only[Option.some.injEq]at h3;subst h3;obtain⟨h5,h6⟩:=nI (hS.one _ _ iL) h4;simp only[Array.toList_map,List.getElem_map];refine⟨h1,?_,λoff ho=>?_⟩
   ·rw[r.eval h2];exact h5
   ·simp only[Option.some.injEq]at ho;rw[h6,ho]
  have eM:(execOp a.eval o).run P w=((Instr.buildSlice t k (ps.map λ(i,x)=>(i,a.eval x))).run P w).andThen (λv w'=>.ok (.value v) w'):=by
   simp[execOp,ho]
  rw[eM];simp only[Instr.buildSlice,Sem.run_bind,ng,Result.andThen_ok,run_sizeOf hS iL];rw[if_neg (by simp;omega)];by_cases h0:k*te.size=0
  ·rw[if_pos h0];have GI:(List.replicate k te.zero).flatten=[]:=by
    apply List.eq_nil_of_length_eq_zero;rw[tL,hS.zero _ _ iL];exact h0
   rw[GI]at zJ;simp only[h0,Sem.run_bind,Sem.run_pure,Result.andThen_ok];simp only[show Array.range 0 = #[]from rfl,Array.map_empty];rw[zJ];simp[Go.newRow]
  ·rw[if_neg h0];have Sm:=xJ z.cells k;rw[Sl,Iz]at Sm;simp only[Sem.run_bind,hz,Result.andThen_ok,Sem.run_pure,Sl,Sm,zJ];simp[Go.newRow]
 ·exact hx.elim
theorem wP (hS:dn P S) (r:Rel D n h0 w0 β e h a w) (hd:∀ d',o.dst=some d'->d' < n) {t el:TypeId} {ti te:TI} {x y:Operand} {k c:Int} (ho:o.op=.makeSlice t x y)
  (cO:S.ty.find t=some ti) (qi:ti.d=.sl el) (iL:S.ty.find el=some te) (AD:e.get x=.v (.int .i64 k)) (Mj:e.get y=.v (.int .i64 c))
  (hx:Ob (k=c/\0<=k/\k*te.bytes<=2 ^ 44/\k<=2 ^ 44) (Ig h (List.replicate k.toNat te.zero).flatten el λb h'=>K (.v (.slice (some ⟨b,0,none⟩) k.toNat k.toNat)) none h')):Sound D P n h0 w0 o a w e K E:=by
 rw[Is]at hx;unfold Yc at hx;rw[oF]at hx;unfold Av at hx;obtain⟨⟨rfl,LA,Ye,abB⟩,hx⟩:=hx;refine jn r hd (v:=.slice (some ⟨w.heap.size,0,none⟩) k.toNat k.toNat) (w':={w with heap:=w.heap.push (.cells ((List.replicate k.toNat te.zero).flatten).toArray el)}) ?_ (cP.push r.mv.view _) (s:=.v (.slice (some ⟨w.heap.size,0,none⟩) k.toNat k.toNat)) rfl (hx _ r.fresh);obtain⟨d,ng,iZ,fj⟩:=cS hS cO w;rw[qi]at fj;cases d<;>simp only[mT]at fj<;>try cases fj
 obtain⟨z,hz,Iz⟩:=j9 hS iL w;obtain⟨i,hi,AE,RM⟩:=lF hS iL w;have Sl:z.cells.size=te.size:=by rw[<-hS.zero _ _ iL,<-Iz];simp
 have Sn:IntKind.i64.wrap k=k:=by simp[IntKind.wrap,IntKind.bits,IntKind.signed];omega
 have eM:(execOp a.eval o).run P w=((Instr.makeSlice t (.int .i64 k) (.int .i64 k)).run P w).andThen (λv w'=>.ok (.value v) w'):=by
  simp[execOp,ho,r.eval AD,r.eval Mj]
 rw[eM];have Pt:¬((i.bytes:Int)*k > 2 ^ 48):=by rw[AE,Int.mul_comm];omega
 simp only[Instr.makeSlice,Sem.run_bind,ng,Result.andThen_ok,asInt,asIntOf,Sem.run_pure,hi,Sn];rw[if_neg (by simp at Pt ⊢;omega)];simp only[Sem.run_bind,run_askRoom,Result.andThen_ok,run_sizeOf hS iL];by_cases Yf:k.toNat*te.size=0
 ·rw[if_pos Yf];have GI:(List.replicate k.toNat te.zero).flatten=[]:=by
   apply List.eq_nil_of_length_eq_zero;rw[tL,hS.zero _ _ iL];exact Yf
  simp[Yf,GI,Go.newRow,show Array.range 0 = #[]from rfl]
 ·rw[if_neg Yf];have Sm:=xJ z.cells k.toNat;rw[Sl,Iz]at Sm;simp only[Sem.run_bind,hz,Result.andThen_ok,Sem.run_pure,Sl,Sm];simp[Go.newRow]
theorem cI {p q:Prop}:Ob p q↔p/\q:=by rw[Is];unfold Yc;exact Iff.rfl
theorem add_zero' (a:Addr):a.add 0=a:=by simp[Addr.add]
theorem AF (a:Option Addr) (k:Nat):a.map (λa=>a.add (0*k))=a:=by cases a<;>simp[add_zero']
theorem AG {size:Nat} {p:Option Addr} {m cap:Nat} {lo hi:Option Operand} {Kc:Value->Prop} (r:Rel D n h0 w0 β e h a w)
  (hx:oJ size p m cap (gQ e lo) (gQ e hi) Kc) :
  ∃ l hh:Nat,(∀ w:World,(Instr.sliceBounds true m cap (lo.map a.eval) (hi.map a.eval) none).run P w=.ok (l,hh,cap) w) /\
   Kc (.slice (if cap=l then p else p.map (·.add (l*size))) (hh-l) (cap-l)):=by
 have nh:∀ H:Nat,oI size p cap (gQ e lo) H Kc->∃ l:Nat,(∀ w:World,(match lo.map a.eval with
   | some v=>Instr.sliceBound v H .sliceB
   | none=>pure 0).run P w=.ok l w)/\Kc (.slice (if cap=l then p else p.map (·.add (l*size))) (H-l) (cap-l)):=by
  intro H hx;unfold oI at hx;cases lo with
  | none =>
   simp only[gQ]at hx;refine⟨0,λw=>by simp,?_⟩;rw[AF];simpa using hx
  | some x =>
   simp only[gQ]at hx;split at hx
   ·rename_i hh;cases hh
   ·rename_i k l hl;simp only[Option.some.injEq]at hl;obtain⟨U,hx⟩:=cI.1 hx;rw[Ax]at hx;unfold Iu at hx;refine⟨l.toNat,λw=>?_,?_⟩
    ·simp only[Option.map_some,r.eval hl,Instr.sliceBound,asIntOf,Sem.run_bind,Sem.run_pure,Result.andThen_ok,if_pos U]
    ·refine hx _ (λcD=>by rw[if_neg cD]) (λhe=>by rw[if_pos he])
   ·exact hx.elim
 unfold oJ at hx;cases hi with
 | none =>
  simp only[gQ]at hx;obtain⟨l,h1,h2⟩:=nh m hx;refine⟨l,m,λw=>?_,h2⟩;have:=h1 w;cases lo<;>simp_all [Instr.sliceBounds]
 | some y =>
  simp only[gQ]at hx;split at hx
  ·rename_i hh;cases hh
  ·rename_i k x hy;simp only[Option.some.injEq]at hy;obtain⟨U,hx⟩:=cI.1 hx;obtain⟨l,h1,h2⟩:=nh x.toNat hx;clear hx nh;refine⟨l,x.toNat,λw=>?_,h2⟩;have:=h1 w;cases lo with
   | none =>
    simp only[Option.map_none,Sem.run_pure]at this;simp only[Instr.sliceBounds,Option.map_some,Option.map_none,r.eval hy,Instr.sliceBound,asIntOf,Sem.run_bind,Sem.run_pure,Result.andThen_ok,if_true,if_pos U];injection this with h3 _
    rw[h3]
   | some z =>
    simp only[Option.map_some]at this;have Pu:(Instr.sliceBound (.int k x) cap .sliceAcap).run P w=.ok x.toNat w:=by
     simp only[Instr.sliceBound,asIntOf,Sem.run_bind,Sem.run_pure,Result.andThen_ok,if_pos U]
    simp only[Instr.sliceBounds,Option.map_some,r.eval hy,Option.isSome_none,Bool.false_eq_true,if_false,if_true,Sem.run_bind,Sem.run_pure,Result.andThen_ok,Pu,this]
  ·exact hx.elim
theorem Cp (hS:dn P S) (r:Rel D n h0 w0 β e h a w) (hd:∀ d',o.dst=some d'->d' < n) {t el:TypeId} {ti te:TI} {x:Operand} {lo hi:Option Operand} {p:Option Addr} {m cap:Nat} (ho:o.op=.slice t x lo hi none)
  (cO:S.ty.find t=some ti) (qi:ti.d=.sl el) (iL:S.ty.find el=some te) (AD:e.get x=.v (.slice p m cap))
  (hx:oJ te.size p m cap (gQ e lo) (gQ e hi) λv=>K (.v v) none h):Sound D P n h0 w0 o a w e K E:=by
 obtain⟨l,hh,h1,h2⟩:=AG (P:=P) r hx;refine bM r hd ?_ h2;obtain⟨d,ng,iZ,fj⟩:=cS hS cO w;rw[qi]at fj;cases d<;>simp only[mT]at fj<;>try cases fj
 simp only[execOp,ho,Instr.sliceAt,Instr.slice,Sem.run_bind,ng,Result.andThen_ok,r.eval AD,Option.map_none,h1,run_sizeOf hS iL,Sem.run_pure]
theorem wQ (hS:dn P S) (r:Rel D n h0 w0 β e h a w) (hd:∀ d',o.dst=some d'->d' < n) {t:TypeId} {ti:TI} {fs:List (Nat × TypeId)} {i k:Nat} {u:TypeId} {x:Operand} (ho:o.op=.fieldAddr t x i)
  (cO:S.ty.find t=some ti) (qi:ti.d=.str fs) (hf:fs[i]? = some (k,u))
  (hx:match e.get x with
    | .l u off=>K (.l u (off+k)) none h
    | .v (.pointer (some ⟨b,off,none⟩))=>K (.v (.pointer (some ⟨b,off+k,none⟩))) none h
    | _=>False):Sound D P n h0 w0 o a w e K E:=by
 obtain⟨d,ng,iZ,fj⟩:=cS hS cO w;rw[qi]at fj;cases d<;>simp only[mT]at fj<;>try cases fj
 rename_i fields;have sr:=r.mW x;rw[List.getElem?_map,Array.getElem?_toList]at hf;cases LB:fields[i]? with
 | none=>rw[LB]at hf;cases hf
 | some f =>
  rw[LB]at hf;simp only[Option.map_some,Option.some.injEq,Prod.mk.injEq]at hf;obtain⟨tj,Lz,hsz⟩:=hS.cX t ti _ cO qi (f.offset,f.type) (List.mem_map.2 ⟨f,Array.mem_toList_iff.2 (Array.mem_of_getElem? LB),rfl⟩);have eM:∀ b off,a.eval x=.pointer (some ⟨b,off,none⟩)->(execOp a.eval o).run P w=.ok (.value (.pointer (some ⟨b,off+k,none⟩))) w:=by
   intro b off he;simp[execOp,ho,he,Instr.fieldAt,ng,LB,Instr.sureAddr,fieldPlace,run_sizeOf hS Lz,hsz,kZ,hf.1]
  split at hx
  ·rename_i v off hv;rw[hv]at sr;exact iY r hd (eM _ _ sr.1) (s:=.l v (off+k)) ⟨rfl,sr.2⟩ hx
  ·rename_i b off hv;rw[hv]at sr;exact iY r hd (eM _ _ sr) (s:=.v _) rfl hx
  ·exact hx.elim
theorem su {k m:Nat} {l vs:List Value} (hv:take k (drop m l)=some vs):vs.length=k/\∀ j v,vs[j]? = some v->l[m+j]? = some v:=by
 obtain⟨h1,h2⟩:=qW _ _ _ hv;rw[drop_eq]at h1 h2;refine⟨by rw[h1];simp at h2 ⊢;omega,λj v hj=>?_⟩;rw[h1]at hj;have FK:j < k:=by
  have:=(List.getElem?_eq_some_iff.1 hj).1;simp at this;omega
 rw[List.getElem?_take_of_lt FK,List.getElem?_drop]at hj;exact hj
theorem Eg {k m:Nat} {cs:Array Value} {vs:List Value} (hv:take k (drop m cs.toList)=some vs):cs.extract m (m+k)=⟨vs⟩:=by
 obtain⟨h1,h2⟩:=qW _ _ _ hv;rw[drop_eq]at h1 h2;apply Array.ext'
 rw[h1];simp[List.extract_eq_take_drop]
theorem Cq (hS:dn P S) (r:Rel D n h0 w0 β e h a w) (hd:∀ d',o.dst=some d'->d' < n) {t u:TypeId} {ti tu:TI} {fs:List (Nat × TypeId)} {i k:Nat} {x:Operand} {cs:Array Value} {vs:List Value} (ho:o.op=.field t x i)
  (cO:S.ty.find t=some ti) (qi:ti.d=.str fs) (hf:fs[i]? = some (k,u)) (AD:e.get x=.v (.agg cs)) (AH:S.ty.find u=some tu)
  (hx:match tu.agg with
      | true=>kE vs λvs=>K (.v (.agg ⟨vs⟩)) none h
      | false=>match vs with
       | [v]=>K (.v v) none h
       | _=>False) (iT:take tu.size (drop k cs.toList)=some vs):Sound D P n h0 w0 o a w e K E:=by
 obtain⟨d,ng,iZ,fj⟩:=cS hS cO w;rw[qi]at fj;cases d<;>simp only[mT]at fj<;>try cases fj
 rename_i fields;rw[List.getElem?_map,Array.getElem?_toList]at hf;cases LB:fields[i]? with
 | none=>rw[LB]at hf;cases hf
 | some f =>
  rw[LB]at hf;simp only[Option.map_some,Option.some.injEq,Prod.mk.injEq]at hf;obtain⟨N1,Y3⟩:=hf;rw[<-Y3]at AH;have eM:(execOp a.eval o).run P w=((part f.type cs k).run P w).andThen (λv w'=>.ok (.value v) w'):=by
   simp[execOp,ho,r.eval AD,Instr.field,ng,LB,asAgg,N1]
  cases Mk:tu.agg with
  | true =>
   simp only[Mk]at hx;rw[bJ]at hx;refine bM r hd ?_ hx;rw[eM];simp only[part,Sem.run_bind,qT hS AH,Mk,Result.andThen_ok,if_true,run_sizeOf hS AH,Sem.run_pure,Eg iT]
  | false =>
   simp only[Mk]at hx;rcases vs with _|⟨v,_|_⟩
   ·exact hx.elim
   ·refine bM r hd ?_ hx;obtain⟨_,hc⟩:=su iT;have:=hc 0 v rfl;rw[eM];have hk:cs[k]? = some v:=by simpa using this
    simp[part,qT hS AH,Mk,hk]
   ·exact hx.elim
theorem wR (hS:dn P S) (r:Rel D n h0 w0 β e h a w) (hd:∀ d',o.dst=some d'->d' < n) {t:TypeId} {x y:Operand} {kk:IntKind} {i:Int} (ho:o.op=.indexAddr t x y)
  (hy:e.get y=.v (.int kk i))
  (hx:match S.ty.find t with
   | some ⟨_,_,_,_,.sl el⟩=>match S.ty.find el,e.get x with
    | some ti,.v (.slice p n _)=>Ob (0<=i/\i < n) (Ptr p λb off=>K (.v (.pointer (some ⟨b,off+i.toNat*ti.size,none⟩))) none h)
    | some ti,.r u n=>Ob (0<=i/\i < n) (K (.l u (i.toNat*ti.size)) none h)
    | _,_=>False
   | some ⟨_,_,_,_,.arr n el⟩=>match S.ty.find el,e.get x with
    | some ti,.v (.pointer (some ⟨b,off,none⟩))=>Ob (0<=i/\i < n) (K (.v (.pointer (some ⟨b,off+i.toNat*ti.size,none⟩))) none h)
    | some ti,.l u off=>Ob (0<=i/\i < n) (K (.l u (off+i.toNat*ti.size)) none h)
    | _,_=>False
   | _=>False):Sound D P n h0 w0 o a w e K E:=by
 have sr:=r.mW x;have hye:=r.eval hy;split at hx
 ·rename_i el cO;obtain⟨d,ng,iZ,fj⟩:=cS hS cO w;cases d<;>simp only[mT]at fj<;>try cases fj
  have eM:∀ te,S.ty.find el=some te->∀ b off m c,a.eval x=.slice (some ⟨b,off,none⟩) m c->(0<=i/\i < m)->(execOp a.eval o).run P w=.ok (.value (.pointer (some ⟨b,off+i.toNat*te.size,none⟩))) w:=by
   intro te iL b off m c he U;simp[execOp,ho,he,hye,Instr.indexAt,ng,asIntOf,U,run_sizeOf hS iL,kZ]
  split at hx
  ·rename_i te p m c iL hv;rw[hv]at sr;obtain⟨U,hx⟩:=cI.1 hx;rw[qS]at hx;unfold Cg at hx;obtain⟨b,off,hp,hk⟩:=hx;subst hp;exact bM r hd (eM te iL _ _ _ _ sr U) hk
  ·rename_i te u m iL hv;rw[hv]at sr;obtain⟨U,hx⟩:=cI.1 hx;refine iY r hd (eM te iL _ _ _ _ sr.1 U) (s:=.l u (i.toNat*te.size)) ⟨?_,sr.2⟩ hx;simp
  ·exact hx.elim
 ·rename_i k el cO;obtain⟨d,ng,iZ,fj⟩:=cS hS cO w;cases d<;>simp only[mT]at fj<;>try cases fj
  have eM:∀ te,S.ty.find el=some te->∀ b off,a.eval x=.pointer (some ⟨b,off,none⟩)->(0<=i/\i < k)->(execOp a.eval o).run P w=.ok (.value (.pointer (some ⟨b,off+i.toNat*te.size,none⟩))) w:=by
   intro te iL b off he U;simp[execOp,ho,he,hye,Instr.indexAt,ng,asIntOf,U,Instr.sureAddr,run_sizeOf hS iL,kZ]
  split at hx
  ·rename_i te b off iL hv;rw[hv]at sr;obtain⟨U,hx⟩:=cI.1 hx;exact bM r hd (eM te iL _ _ sr U) hx
  ·rename_i te u off iL hv;rw[hv]at sr;obtain⟨U,hx⟩:=cI.1 hx;exact iY r hd (eM te iL _ _ sr.1 U) (s:=.l u (off+i.toNat*te.size)) ⟨rfl,sr.2⟩ hx
  ·exact hx.elim
 ·exact hx.elim
theorem zv (r:Rel D n h0 w0 β e h a w) (hd:∀ d',o.dst=some d'->d' < n) {x:Operand} {i:Nat} {vs:Array Value} {v:Value} (ho:o.op=.extract x i)
  (AD:e.get x=.v (.tuple vs)) (hv:Ay 0 (take 1 (drop i vs.toList))=some v) (hx:K (.v v) none h):Sound D P n h0 w0 o a w e K E:=by
 refine bM r hd ?_ hx;have:vs[i]? = some v:=by
  unfold Ay at hv;split at hv
  ·rename_i l hl;obtain⟨h1,h2⟩:=su hl;match l,h1,hv,h2 with
   | [u],_,hv,h2 =>
    simp only[Option.some.injEq]at hv;subst hv;have:=h2 0 u rfl;simpa using this
  ·cases hv
 simp[execOp,ho,r.eval AD,Instr.extract,this]
theorem zK (nl:Nat):∀(k c:Nat),256<=c->Builtin.growBy nl k c<=2 ^ k*c
 | 0,c,_=>by simp[Builtin.growBy]
 | k+1,c,h=>by
  unfold Builtin.growBy;split
  ·have:1<=2 ^ (k+1):=Nat.one_le_two_pow;exact Nat.le_mul_of_pos_left c this
  ·have h1:=zK nl k (c+(c+768) / 4) (by omega);have h2:c+(c+768) / 4<=2*c:=by omega
   calc _<=2 ^ k*(c+(c+768) / 4):=h1
    _<=2 ^ k*(2*c):=Nat.mul_le_mul_left _ h2
    _=2 ^ (k+1)*c:=by rw[Nat.pow_succ,Nat.mul_assoc]
theorem xK {need cap:Nat} (h:cap < need):Builtin.nextslicecap need cap<=16*need:=by
 unfold Builtin.nextslicecap;split
 ·omega
 ·split
  ·omega
  ·have:=zK need 4 cap (by omega);omega
theorem oM (z:Array Value) (k:Nat):Builtin.zeroCells z k=((List.replicate k z.toList).flatten).toArray:=xJ z k
theorem Cr (r:Rel D n h0 w0 β e h a w) {size:Nat} {y:Operand} {Kc:Nat->List Value->Prop} (hx:appArg e size (e.get y) h Kc) :
  ∃ m vs,Kc m vs/\(∀ w1:World,(Builtin.lenOf (a.eval y)).run P w1=.ok m w1) /\
   ∀ w1:World,w1.heap=w.heap->(Builtin.firstCells size m (a.eval y)).run P w1=.ok vs.toArray w1:=by
 have BT:=r.mW y;unfold appArg at hx;split at hx
 ·rename_i t k hy;rw[hy]at BT;split at hx
  ·rename_i cs U;split at hx
   ·rename_i hl;have hl:=Nat.eq_of_beq_eq_true hl;refine⟨k,cs,hx,λw1=>by rw[BT.1];rfl,λw1 hw=>?_⟩;rw[BT.1];simp only[Builtin.firstCells,loadCells];have:=run_loadCells (P:=P) (w:=w1) cs (β t) 0 0 #[] (λj v hj=>by
     have:=Ci r U hj;simp only[World.cell?,hw]at this ⊢;simpa using this)
    rw[hl]at this;simpa using this
   ·exact hx.elim
  ·exact hx.elim
 ·rename_i p k c hy;rw[hy]at BT;rw[tG]at hx;unfold D8 at hx;rcases hx with ⟨hz,hx⟩|⟨b,off,vs,rfl,iT,hx⟩
  ·have IA:a.eval y=.slice p k c:=BT;refine⟨k,[],hx,λw1=>by rw[IA];rfl,λw1 _=>?_⟩;rw[IA];rcases hz with rfl|hz
   ·rfl
   ·cases p with
    | none=>rfl
    | some q =>
     simp only[Builtin.firstCells,hz];rfl
  ·obtain⟨hl,hc⟩:=qg _ _ _ iT;have IA:a.eval y=.slice (some ⟨b,off,none⟩) k c:=BT;refine⟨k,vs,hx,λw1=>by rw[IA];rfl,λw1 hw=>?_⟩;rw[IA];simp only[Builtin.firstCells,loadCells];have:=run_loadCells (P:=P) (w:=w1) vs b off 0 #[] (λj v hj=>by
    have:=qV r.mv.view (hc j v hj);simp only[World.cell?,hw]at this ⊢;simpa using this)
   rw[hl]at this;simpa using this
 ·exact hx.elim
theorem AI (hS:dn P S) (r:Rel D n h0 w0 β e h a w) (hd:∀ d',o.dst=some d'->d' < n) {t u el:TypeId} {ti tu te:TI} {el':TypeId} {x y:Operand} {args:Array Operand} {ts:Array TypeId} {p:Option Addr} {k cap:Nat}
  (ho:o.op=.call {callee:=.builtin .append,args:=args,argTypes:=ts}) (hargs:args.toList=[x,y]) (FM:ts.toList=[t,u])
  (cO:S.ty.find t=some ti) (qi:ti.d=.sl el) (AH:S.ty.find u=some tu) (Pv:tu.d=.sl el') (iL:S.ty.find el=some te) (AD:e.get x=.v (.slice p k cap))
  (hx:appArg e te.size (e.get y) h λm vs=>App te.bytes te.size te.zero el h p k cap m vs λv h'=>K (.v v) none h'):Sound D P n h0 w0 o a w e K E:=by
 obtain⟨m,vs,hx,hm,iT⟩:=Cr (P:=P) r hx;have oN:args = #[x,y]:=by rw[<-hargs]
 have Y4:ts = #[t,u]:=by rw[<-FM]
 obtain⟨d,ng,iZ,fj⟩:=cS hS cO w;rw[qi]at fj;cases d<;>simp only[mT]at fj<;>try cases fj
 obtain⟨du,So,_,Eh⟩:=cS hS AH w;rw[Pv]at Eh;cases du<;>simp only[mT]at Eh<;>try cases Eh
 have eM:(execOp a.eval o).run P w=((Builtin.append_ #[t,u] o.type #[.slice p k cap,a.eval y]).run P w).andThen (λv w'=>.ok (.value v) w'):=by
  simp[execOp,ho,oN,Y4,resolve,invoke,builtin,r.eval AD]
 rw[oH]at hx;unfold Aw at hx;by_cases hle:k+m<=cap
 ·obtain⟨ez,hx⟩:=hx.1 hle;have IB:∀ w',(match p with
    | some a=>(storeCells (a.add (k*te.size)) vs).run P w=.ok () w'
    | none=>w'=w)->(execOp a.eval o).run P w=.ok (.value (.slice p (k+m) cap)) w':=by
   intro w' hw;rw[eM];simp only[Builtin.append_,List.getElem?_toArray,List.getElem?_cons_zero,List.getElem?_cons_succ,Sem.run_bind,ng,Result.andThen_ok,run_sizeOf hS iL,So,Sem.run_pure,Bool.false_eq_true,if_false,hm,if_pos hle,Bool.not_false,if_true,iT w rfl];cases p with
   | none=>simp only at hw;subst hw;simp
   | some pa=>simp only at hw;simp[hw]
  rcases p with _|⟨b,off,_|sp⟩
  ·obtain⟨Y5,hK⟩:=hx;exact bM r hd (IB w rfl) hK
  ·obtain⟨cs,ty,U,Ei,hK⟩:=hx;obtain⟨w',Iy,Ck,Mh⟩:=gR (P:=P) b ty vs (off+k*te.size) 0 w cs (r.mv.view _ _ U) (by simpa using Ei) ez;refine jn r hd (IB w' ?_) (cP.Iw r.mv.view U _ (by simpa using Ck) Mh) (s:=.v (.slice (some ⟨b,off,none⟩) (k+m) cap)) rfl hK;simp only[kZ];exact Iy
  ·exact hx.elim
 ·obtain⟨IC,Sp,ic,hold,hx⟩:=hx.2 (by omega);obtain⟨i,hi,AE,RM⟩:=lF hS iL w;obtain⟨z,hz,Iz⟩:=j9 hS iL w;have Sq:=xK (need:=k+m) (cap:=cap) (by omega);have sH:Builtin.nextslicecap (k+m) cap*te.bytes<=2 ^ 48:=by
   have h1:=Nat.mul_le_mul_right te.bytes Sq;rw[Nat.mul_assoc]at h1;omega
  have ID:∀ w1:World,w1.heap=w.heap->(Builtin.firstCells te.size k (.slice p k cap)).run P w1=.ok ic.toArray w1:=by
   intro w1 hw;rcases p with _|⟨b,off,_|sp⟩
   ·rw[hold.2];rfl
   ·obtain⟨hl,hc⟩:=qg _ _ _ hold;simp only[Builtin.firstCells,loadCells];have:=run_loadCells (P:=P) (w:=w1) ic b off 0 #[] (λj v hj=>by
     have:=qV r.mv.view (hc j v hj);simp only[World.cell?,hw]at this ⊢;simpa using this)
    rw[hl]at this;simpa using this
   ·exact hold.elim
  obtain⟨nc,Pw,Px⟩:∃ nc,k+m<=nc/\(choose (.appendCap (k+m) cap el)).run P w=.ok nc {w with drawn:=w.drawn+1}:=by
   refine⟨_,?_,by simp[Question.forced];rfl⟩;simp only[Question.cut];omega
  have GJ:z.cells=te.zero.toArray:=by rw[<-Iz]
  have Py:¬(((k+m:Nat):Int) > IntKind.i64.max):=by
   have:(IntKind.i64.max:Int)=9223372036854775807:=by decide
   rw[this];omega
  refine jn r hd (v:=.slice (some ⟨w.heap.size,0,none⟩) (k+m) nc) (w':={w with drawn:=w.drawn+1,heap:=w.heap.push (.cells (ic++vs++(List.replicate (nc-(k+m)) te.zero).flatten).toArray el)}) ?_ ?_ (s:=.v (.slice (some ⟨w.heap.size,0,none⟩) (k+m) nc)) rfl (hx _ nc r.fresh Pw)
  ·rw[eM];simp only[Builtin.append_,List.getElem?_toArray,List.getElem?_cons_zero,List.getElem?_cons_succ,Sem.run_bind,ng,Result.andThen_ok,run_sizeOf hS iL,So,Sem.run_pure,Bool.false_eq_true,if_false,hm,if_neg hle,Bool.not_false,if_true,hi,AE];rw[if_neg (by rintro⟨h1,_⟩;exact Py h1)];simp only[Sem.run_bind,Sem.run_pure,Result.andThen_ok,hi,AE];rw[if_neg (by omega)];simp only[Sem.run_bind,Sem.run_pure,Result.andThen_ok,Px,hi,AE,run_askRoom];obtain⟨i2,IE,_,_⟩:=lF hS iL {w with drawn:=w.drawn+1};simp only[IE,Result.andThen_ok];rw[ID {w with drawn:=w.drawn+1} rfl];simp only[Result.andThen_ok];rw[iT {w with drawn:=w.drawn+1} rfl];obtain⟨z',Pz,GJ⟩:=j9 hS iL {w with drawn:=w.drawn+1};have IF:z'.cells=te.zero.toArray:=by rw[<-GJ]
   simp only[Result.andThen_ok,Pz,oM,IF,Go.newRow,Sem.run_bind,run_newObj,Sem.run_pure];simp
  ·have:=cP.push r.mv.view (.cells (ic++vs++(List.replicate (nc-(k+m)) te.zero).flatten).toArray el);exact⟨this.view,this.aG,this.xd,this.size,this.fz,rfl,rfl,rfl⟩
theorem lG:∀(xs:List Operand) (Kc:List Value->Prop),bE e xs Kc->∃ vs,Kc vs/\vs.length=xs.length/\∀ i (hi:i < xs.length) (hj:i < vs.length),e.get xs[i]=.v vs[i]
 | [],Kc,h=>⟨[],h,rfl,λi hi=>by simp at hi⟩
 | x::xs,Kc,h=>by
  simp only[bE]at h;split at h
  ·rename_i v hv;obtain⟨vs,h1,h2,h3⟩:=lG xs _ h;refine⟨v::vs,h1,by simp[h2],λi hi hj=>?_⟩;cases i with
   | zero=>exact hv
   | succ i=>exact h3 i (by simpa using hi) (by simpa using hj)
  ·exact h.elim
theorem qj (r:Rel D n h0 w0 β e h a w) {xs:Array Operand} {vs:List Value} (h1:vs.length=xs.toList.length) (h2:∀ i (hi:i < xs.toList.length) (hj:i < vs.length),e.get xs.toList[i]=.v vs[i]):xs.map a.eval=vs.toArray:=by
 apply Array.ext
 ·simp at h1 ⊢;exact h1.symm
 ·intro i hi hj;simp at hi hj;have:=h2 i (by simpa using hi) hj;simp only[Array.getElem_toList]at this;simp[r.eval this]
theorem AJ (hS:dn P S) (r:Rel D n h0 w0 β e h a w) (hd:∀ d',o.dst=some d'->d' < n) {x:Bool} {f:Operand} {fv:Value} {args:Array Operand} {ts:Array TypeId} (ho:o.op=.call {callee:=.value f,args:=args,argTypes:=ts})
  (hf:e.get f=.v fv) (hx:bE e args.toList λargs=>qf P S x fv args h K E):Sound D P n h0 w0 o a w e K E:=by
 obtain⟨vs,hx,h1,h2⟩:=lG _ _ hx;have hargs:=qj r h1 h2;unfold qf at hx;split at hx
 ·rename_i g first captured hx9;split at hx
  ·rename_i zL Pu;obtain⟨fn,Si,zM,IG⟩:=hS.fn g (Nat.le_of_ble_eq_true zL) (by have:=Pu;simp[Nat.blt]at this;omega);rw[bJ]at hx;have eM:(execOp a.eval o).run P w=.ok (.enter g (first++vs.toArray++captured)) w:=by
    simp only[execOp,ho,resolve,r.eval hf,Deferred.ofValue,hargs,Sem.run_bind,Sem.run_pure,Result.andThen_ok,invoke,callFunc,run_program,Si,IG,Bool.false_eq_true,if_false,zM]
   have qk:(first.toList++vs++captured.toList).toArray=first++vs.toArray++captured:=by
    apply Array.ext';simp
   have nh:∀ R,cH P g (first.toList++vs++captured.toList) h R->(∀ v h',R (.ret v) h'->K (.v v) none h')->(∀ c h',R (.lE c) h'->E c h')->Sound D P n h0 w0 o a w e K E:=by
    intro R hR hRk hRe next Q hk hE;unfold Oper.wp;rw[eM];simp only[Oper.upon];rw[<-qk];refine(hR w r.mv.view).mono ?_;intro en w' ⟨h',m,hm⟩;cases en with
    | returned v=>exact hk _ none h' β _ w' (hRk v h' hm) (r.put m o.dst hd rfl)
    | panicked c=>exact hE c h' a w' (hRe c h' hm) (r.mv.trans m) r.xD
    | outgrown=>exact hm.elim
   split at hx
   ·rw[qR]at hx;unfold vc at hx;exact nh _ hx (λv h' hh=>hh.2) (λc h' hh=>hh)
   ·rw[tE]at hx;unfold xy at hx;exact nh _ hx (λv h' hh=>hh) (λc h' hh=>hh)
  ·exact hx.elim
 ·exact hx.elim
theorem zO (hS:dn P S) (r:Rel D n h0 w0 β e h a w) (hd:∀ d',o.dst=some d'->d' < n) {x:Operand} {args:Array Operand} {ts:Array TypeId} {k c:Nat} {p:Option Addr} {ti:TI} {el:TypeId} (ho:o.op=.call {callee:=.builtin .len,args:=args,argTypes:=ts})
  (hargs:args.toList=[x]) (cO:(ts.toList.head?).bind (λt=>S.ty.find t)=some ti) (qi:ti.d=.sl el) (AD:a.eval x=.slice p k c) (hx:K (.v (.int .i64 k)) none h):Sound D P n h0 w0 o a w e K E:=by
 refine bM r hd ?_ hx;have oN:args = #[x]:=by rw[<-hargs]
 cases FM:ts.toList with
 | nil=>rw[FM]at cO;cases cO
 | cons t ts' =>
  rw[FM]at cO;simp only[List.head?_cons,Option.bind_some]at cO;obtain⟨d,ng,iZ,fj⟩:=cS hS cO w;rw[qi]at fj;cases d<;>simp only[mT]at fj<;>try cases fj
  have h0:ts[0]? = some t:=by rw[<-Array.getElem?_toList,FM];rfl
  simp[execOp,ho,oN,resolve,invoke,builtin,AD,Builtin.len_,h0,ng,goInt]
theorem Cs {j k:IntKind} (hh:sameKind j k=true):j=k:=by cases j<;>cases k<;>simp_all [sameKind]
theorem iH {k:IntKind} {x:Int} {Kc:Int->Prop}:Ar k x Kc↔Kc (k.wrap x):=by rw[Ph];unfold YZ;exact Iff.rfl
theorem wS (op:BinOp) (t:TypeId) (x y:Operand) (j k:IntKind) (i m:Int) (w:World):(eqGuard op t x y (.int j i) (.int k m)).run P w=.ok () w:=by
 unfold eqGuard;cases op<;>rfl
theorem AK (r:Rel D n h0 w0 β e h a w) (hd:∀ d',o.dst=some d'->d' < n) {op:BinOp} {t u:TypeId} {x y:Operand} {j k:IntKind} {i m:Int} (ho:o.op=.binOp op t x y u)
  (AD:e.get x=.v (.int j i)) (Mj:e.get y=.v (.int k m)) (FK:sameKind j k=true) {raw:Prop} (kF:raw->Sound D P n h0 w0 o a w e K E) (hx:vg op j i m (λv=>K (.v v) none h) raw):Sound D P n h0 w0 o a w e K E:=by
 have FK:=Cs FK;subst FK;have eM:∀ v,(Go.binOp op t (.int j i) (.int j m)).run P w=.ok v w->(execOp a.eval o).run P w=.ok (.value v) w:=by
  intro v hv;simp only[execOp,ho,r.eval AD,r.eval Mj,Sem.run_bind,wS,Result.andThen_ok,hv,Sem.run_pure]
 cases op<;>simp only[vg]at hx<;>first
  | exact kF hx
  | (rw[iH]at hx;exact bM r hd (eM _ (by simp[Go.binOp,Op.intArith])) hx)
  | (obtain⟨h1,hx⟩:=cI.1 hx;rw[iH]at hx;exact bM r hd (eM _ (by simp[Go.binOp,Op.intDiv,h1])) hx)
  | (obtain⟨h1,hx⟩:=cI.1 hx;exact bM r hd (eM _ (by simp[Go.binOp,Op.intDiv,h1])) hx)
  | (
   refine bM r hd (eM _ ?_) hx;first
    | (simp[Go.binOp,Op.intCmp];done)
    | (simp[Go.binOp,Op.intCmp];rfl)
    | (simp[Go.binOp,Op.intCmp,bne,BEq.beq];done)
    | (simp[Go.binOp,Op.intBits,v8];done))
theorem nJ (op:BinOp) (t:TypeId) (x y:Operand) (b c:Bool) (w:World):(eqGuard op t x y (.bool b) (.bool c)).run P w=.ok () w:=by
 unfold eqGuard;cases op<;>rfl
theorem run_equal_bool {t:TypeId} {b c:Bool} {w:World} (hd:(underlying t).run P w=.ok .bool w):(Op.equal t (.bool b) (.bool c)).run P w=.ok (b==c) w:=by
 unfold Op.equal Op.maxDepth;rw[show(10000:Nat)=9999+1 from rfl,Op.equalIn];simp only[Sem.run_bind,hd,Result.andThen_ok];rfl
theorem zP (r:Rel D n h0 w0 β e h a w) (hd:∀ d',o.dst=some d'->d' < n) (hx:Raw P o e h λv h'=>K (.v v) none h'):Sound D P n h0 w0 o a w e K E:=by
 rw[mV]at hx;unfold zo at hx;obtain⟨hv,hx⟩:=hx;obtain⟨v,w',h',eM,m,hK⟩:=hx a.eval (λx II=>by obtain⟨v,hv⟩:=hv x II;rw[hv,r.eval hv]) w r.mv.view;rcases eM with eM|⟨eM,rfl⟩
 ·exact jn r hd eM m (s:=.v v) rfl hK
 ·exact xG r hd eM m hK
theorem bV (r:Rel D n h0 w0 β e h a w) (hd:∀ d',o.dst=some d'->d' < n) {x:Bool} (hx:match x && !Iv o.op with
  | true=>False
  | false=>Raw P o e h λv h'=>K (.v v) none h'):Sound D P n h0 w0 o a w e K E:=by
 split at hx
 ·exact hx.elim
 ·exact zP r hd hx
theorem Ej (r:Rel D n h0 w0 β e h a w) (hd:∀ d',o.dst=some d'->d' < n) {x:Bool} (hx:zu P o e h x K):Sound D P n h0 w0 o a w e K E:=by
 unfold zu at hx;split at hx
 ·rw[qe]at hx;unfold xA at hx;obtain⟨hv,v,hK,eM⟩:=hx;exact bM r hd (eM a.eval (λx II=>by obtain⟨v,hv⟩:=hv x II;rw[hv,r.eval hv]) w) hK
 ·exact zP r hd hx
theorem oO (r:Rel D n h0 w0 β e h a w) (hd:∀ d',o.dst=some d'->d' < n) {x:Operand} (ho:(execOp a.eval o).run P w=.ok (.value (a.eval x)) w) (hx:match e.get x with
    | .x=>False
    | s=>K s none h):Sound D P n h0 w0 o a w e K E:=by
 have sr:=r.mW x;split at hx
 ·exact hx.elim
 ·exact iY r hd ho sr hx
theorem Ek (hS:dn P S) {F:Fs} {x:Bool} (r:Rel D n h0 w0 β e h a w) (hd:∀ d',o.dst=some d'->d' < n) (hx:exec P S F x o e h K E):Sound D P n h0 w0 o a w e K E:=by
 obtain⟨dst,op,ty,pos,after,guard⟩:=o;cases op with
 | move y=>exact oO r hd (x:=y) (by simp[execOp]) hx
 | assign y=>exact oO r hd (x:=y) (by simp[execOp]) hx
 | pick c y z =>
  simp only[exec]at hx;split at hx
  ·rename_i t ht;have hc:=r.eval ht;cases t with
   | true=>exact oO r hd (x:=y) (by simp[execOp,hc,asBool]) hx
   | false=>exact oO r hd (x:=z) (by simp[execOp,hc,asBool]) hx
  ·exact hx.elim
 | alloc t =>
  simp only[exec]at hx;split at hx
  ·rename_i ti cO;exact Cm hS r hd rfl cO hx
  ·exact hx.elim
 | box t y =>
  simp only[exec]at hx;split at hx
  ·rename_i v ti hv cO;exact Cl hS r hd rfl cO hv hx
  ·exact hx.elim
 | build t ps=>exact Co hS r hd rfl hx
 | buildSlice t k ps =>
  simp only[exec]at hx;split at hx
  ·rename_i el cO;split at hx
   ·rename_i te iL;split at hx
    ·rename_i hle;exact vk hS r hd rfl cO rfl iL (Nat.le_of_ble_eq_true hle) hx
    ·exact hx.elim
   ·exact hx.elim
  ·exact hx.elim
 | load t y =>
  simp only[exec]at hx;split at hx
  ·rename_i ti cO;split at hx
   ·split at hx
    ·rename_i u off hy;rw[<-hy]at hx;exact xH hS r hd rfl cO hx
    ·exact hx.elim
   ·exact xH hS r hd rfl cO hx
  ·exact hx.elim
 | store t y z =>
  simp only[exec]at hx;split at hx
  ·rename_i ti v cO hv;exact Cj hS r hd rfl cO hv hx
  ·exact hx.elim
 | nilCheck y =>
  simp only[exec]at hx;have BT:=r.mW y;split at hx
  ·rename_i t off hy;rw[hy]at BT;exact iY r hd (v:=.pointer (some ⟨β t,off,none⟩)) (by simp[execOp,BT.1]) (s:=.l t off) ⟨rfl,BT.2⟩ hx
  ·rename_i p hy;exact bM r hd (by simp[execOp,r.eval hy]) hx
  ·rename_i t v hy;exact bM r hd (by simp[execOp,r.eval hy]) hx
  ·rename_i g f c hy;exact bM r hd (by simp[execOp,r.eval hy]) hx
  ·exact bV r hd hx
 | binOp op t y z u =>
  simp only[exec]at hx;split at hx
  ·rename_i j i k m hy hz;split at hx
   ·rename_i FK;exact AK r hd rfl hy hz FK (bV r hd) hx
   ·exact bV r hd hx
  ·rename_i b c hy hz;split at hx
   ·rename_i cO;obtain⟨d,ng,_,qi⟩:=cS hS cO w;cases d<;>simp only[mT]at qi<;>try cases qi
    split at hx
    ·refine bM r hd ?_ hx;simp only[execOp,r.eval hy,r.eval hz,Sem.run_bind,nJ,Result.andThen_ok];rw[show Go.binOp .eql t (.bool b) (.bool c)=(do pure (.bool (<-Op.equal t (.bool b) (.bool c))))from rfl];simp only[Sem.run_bind,run_equal_bool ng,Result.andThen_ok,Sem.run_pure]
    ·refine bM r hd ?_ hx;simp only[execOp,r.eval hy,r.eval hz,Sem.run_bind,nJ,Result.andThen_ok];rw[show Go.binOp .neq t (.bool b) (.bool c)=(do pure (.bool (!(<-Op.equal t (.bool b) (.bool c)))))from rfl];simp only[Sem.run_bind,run_equal_bool ng,Result.andThen_ok,Sem.run_pure,bne]
    ·exact bV r hd hx
   ·exact bV r hd hx
  ·exact Ej r hd hx
 | unOp op t y =>
  simp only[exec]at hx;split at hx
  ·rename_i b hy;exact bM r hd (by simp[execOp,r.eval hy,Op.unary]) hx
  ·rename_i k m hy;rw[iH]at hx;exact bM r hd (by simp[execOp,r.eval hy,Op.unary,Op.intArith]) hx
  ·exact bV r hd hx
 | convert s t y =>
  simp only[exec]at hx;split at hx
  ·rename_i ti tj k m cO Lz hy;split at hx
   ·rename_i k' Sr;rw[iH]at hx;refine bM r hd ?_ hx;obtain⟨d,ng,_,qi⟩:=cS hS Lz w;obtain⟨d',Y6,_,_⟩:=cS hS cO w;rw[Sr]at qi;cases d<;>simp only[mT]at qi<;>try cases qi
    simp only[execOp,Go.convert,Sem.run_bind,Y6,ng,Result.andThen_ok,r.eval hy,Conv.intToInt,Sem.run_pure]
   ·exact bV r hd hx
  ·exact bV r hd hx
 | index t y z =>
  simp only[exec]at hx;split at hx
  ·rename_i s k i hy hz;split at hx
   ·rename_i cO;obtain⟨U,hx⟩:=cI.1 hx;refine bM r hd ?_ hx;obtain⟨d,ng,_,qi⟩:=cS hS cO w;cases d<;>simp only[mT]at qi<;>try cases qi
    have iS:i.toNat < s.size:=by omega
    have hg:s[i.toNat]? = some (s[i.toNat]'iS):=by simp[iS]
    have hl:s.data.toList.getD i.toNat 0=s[i.toNat]'iS:=by
     have:i.toNat < s.data.toList.length:=by simpa using iS
     have h2:s.data[i.toNat]? = some (s.data[i.toNat]'iS):=Array.getElem?_eq_getElem iS;simp[List.getD_eq_getElem?_getD,h2];rfl
    simp only[execOp,Instr.index,r.eval hy,r.eval hz,asIntOf,Sem.run_bind,Sem.run_pure,Result.andThen_ok,ng,if_pos U.1,hg,hl]
   ·exact bV r hd hx
  ·exact bV r hd hx
 | makeInterface t y =>
  simp only[exec]at hx;split at hx
  ·rename_i ti v cO hy;split at hx
   ·exact hx.elim
   ·rename_i cD;refine bM r hd ?_ hx;obtain⟨d,ng,_,qi⟩:=cS hS cO w;cases d<;>first
     | (exfalso;exact cD (by rw[<-qi];rfl))
     | simp[execOp,r.eval hy,Instr.makeInterface,ng]
  ·exact hx.elim
 | makeFunc f fs cs =>
  simp only[exec]at hx;obtain⟨vs,hx,h1,h2⟩:=lG _ _ hx;obtain⟨us,hx,h3,h4⟩:=lG _ _ hx;exact bM r hd (by simp only[execOp,qj r h1 h2,qj r h3 h4,Instr.makeFunc];rfl) hx
 | slice t y lo hi mx =>
  simp only[exec]at hx;split at hx
  ·rename_i el cO;split at hx
   ·rename_i te p m cap iL hy;exact Cp hS r hd rfl cO rfl iL hy hx
   ·exact bV r hd hx
  ·exact bV r hd hx
 | fieldAddr t y i =>
  simp only[exec]at hx;split at hx
  ·rename_i fs cO;split at hx
   ·rename_i k u hf;exact wQ hS r hd rfl cO rfl hf hx
   ·exact hx.elim
  ·exact hx.elim
 | field t y i =>
  simp only[exec]at hx;split at hx
  ·rename_i fs cO;split at hx
   ·rename_i k u hf;split at hx
    ·rename_i cs tu hy AH;split at hx
     ·rename_i vs iT;exact Cq hS r hd rfl cO rfl hf hy AH hx iT
     ·exact hx.elim
    ·exact hx.elim
   ·exact hx.elim
  ·exact hx.elim
 | indexAddr t y z =>
  simp only[exec]at hx;split at hx
  ·rename_i k i hz;exact wR hS r hd rfl hz hx
  ·exact hx.elim
 | extract y i =>
  simp only[exec]at hx;split at hx
  ·rename_i vs hy;split at hx
   ·rename_i v hv;exact zv r hd rfl hy hv hx
   ·exact hx.elim
  ·exact hx.elim
 | makeSlice t y z =>
  simp only[exec]at hx;split at hx
  ·rename_i el cO;split at hx
   ·rename_i te k c iL hy hz;exact wP hS r hd rfl cO rfl iL hy hz hx
   ·exact hx.elim
  ·exact hx.elim
 | panic y =>
  simp only[exec]at hx;split at hx
  ·rename_i t v hy;intro next Q hk hE;unfold Oper.wp;have:(execOp a.eval ⟨dst,.panic y,ty,pos,after,guard⟩).run P w=.halt (.panic (.iface t v)) w:=by
    simp[execOp,r.eval hy,Instr.panic]
   rw[this];exact hE _ h a w hx r.mv r.xD
  ·exact hx.elim
 | call c =>
  obtain⟨callee,args,ts⟩:=c;cases callee with
  | value f =>
   simp only[exec]at hx;split at hx
   ·rename_i fv hf;exact AJ hS r hd rfl hf hx
   ·exact hx.elim
  | invoke y m=>exact bV r hd hx
  | builtin b =>
   cases b with
   | len =>
    simp only[exec]at hx;split at hx
    ·rename_i y hargs;have BT:=r.mW y;split at hx
     ·rename_i p k c hy;rw[hy]at BT;split at hx
      ·rename_i el cO;exact zO hS r hd rfl hargs cO rfl BT hx
      ·exact hx.elim
     ·rename_i u k hy;rw[hy]at BT;split at hx
      ·rename_i el cO;exact zO hS r hd rfl hargs cO rfl BT.1 hx
      ·exact hx.elim
     ·exact bV r hd hx
    ·exact hx.elim
   | max =>
    simp only[exec]at hx;split at hx
    ·rename_i y z hargs;split at hx
     ·rename_i k m k' m' hy hz;split at hx
      ·have oN:args = #[y,z]:=by rw[<-hargs]
       refine bM r hd ?_ hx;simp only[execOp,resolve,Sem.run_bind,Sem.run_pure,Result.andThen_ok,invoke,builtin,Builtin.max_,oN];simp[r.eval hy,r.eval hz,Builtin.max2,mx]
      ·exact bV r hd hx
     ·exact bV r hd hx
    ·exact bV r hd hx
   | min =>
    simp only[exec]at hx;split at hx
    ·rename_i y z hargs;split at hx
     ·rename_i k m k' m' hy hz;split at hx
      ·have oN:args = #[y,z]:=by rw[<-hargs]
       refine bM r hd ?_ hx;simp only[execOp,resolve,Sem.run_bind,Sem.run_pure,Result.andThen_ok,invoke,builtin,Builtin.min_,oN];simp[r.eval hy,r.eval hz,Builtin.min2,mn]
      ·exact bV r hd hx
     ·exact bV r hd hx
    ·exact bV r hd hx
   | cap =>
    simp only[exec]at hx;split at hx
    ·rename_i y hargs;split at hx
     ·rename_i p k c hy;split at hx
      ·rename_i el cO;have oN:args = #[y]:=by rw[<-hargs]
       refine bM r hd ?_ hx;cases FM:ts.toList with
       | nil=>rw[FM]at cO;cases cO
       | cons t ts' =>
        rw[FM]at cO;simp only[List.head?_cons,Option.bind_some]at cO;obtain⟨d,ng,iZ,fj⟩:=cS hS cO w;cases d<;>simp only[mT]at fj<;>try cases fj
        have h0:ts[0]? = some t:=by rw[<-Array.getElem?_toList,FM];rfl
        simp[execOp,oN,resolve,invoke,builtin,r.eval hy,Builtin.cap_,h0,ng,goInt]
      ·exact hx.elim
     ·exact bV r hd hx
    ·exact hx.elim
   | append =>
    simp only[exec]at hx;split at hx
    ·rename_i y z t u hargs FM;split at hx
     ·rename_i el el' cO AH;split at hx
      ·rename_i te iL;split at hx
       ·rename_i p k cap hy;exact AI hS r hd rfl hargs FM cO rfl AH rfl iL hy hx
       ·exact hx.elim
      ·exact hx.elim
     ·exact bV r hd hx
    ·exact hx.elim
   | _=>exact bV r hd hx
 | _=>exact bV r hd hx
set_option linter.constructorNameAsVariable false
set_option linter.unusedVariables false
variable {D:List Deferred} {P:Program} {S:nH} {n:Nat} {h0:Heap} {w0:World} {β:Nat->Nat} {e:Env} {h:Heap} {a:Act} {w:World}
theorem vm:∀(l:List Oper) (i:Nat),nth l i=l[i]?
 | [],i=>by cases i<;>rfl
 | _::_,0=>rfl
 | _::r,i+1=>by simp[nth,vm r i]
theorem zQ {b:Bool} {t f:Prop} (hx:eL b t f):(b=true/\t)\/(b=false/\f):=by
 cases b
 ·exact .inr ⟨rfl,hx⟩
 ·exact .inl ⟨rfl,hx⟩
theorem Rel.known (r:Rel D n h0 w0 β e h a w) {d:Nat} {b:Bool} (hs:e.s d=.v (.bool b)):Rel D n h0 w0 β (e.put (some d) (.v (.bool b)) none) h a w where
 size:=r.size
 xD:=r.xD
 slot t:=by
  simp only[Env.put];by_cases hh:t=d
  ·simp only[hh,if_true];have:=r.slot d;rw[hs]at this;exact this
  ·simp only[hh,if_false];have:=r.slot t;revert this;cases e.s t<;>exact id
 box:=r.box
 inj:=r.inj
 mv:=r.mv
theorem El (r:Rel D n h0 w0 β e h a w) {ops:Array Oper} {j d:Nat} {o:Oper} (ho:ops[j]? = some o) (hd:o.dst=some d) {b:Bool} (hs:e.s d=.v (.bool b)):yielded ops a.tmps j=some b:=by
 have:=r.slot d;rw[hs]at this;have hv:a.tmps.getD d undef=.bool b:=this;have:a.tmps[d]? = some (.bool b):=by
  rw[Array.getD_eq_getD_getElem?]at hv;cases hg:a.tmps[d]? with
  | none=>rw[hg]at hv;simp[undef]at hv
  | some v=>rw[hg]at hv;simp at hv;rw[hv]
 simp[yielded,ho,hd,this]
theorem AL (r:Rel D n h0 w0 β e h a w) {ops:Array Oper} {j d:Nat} {o:Oper} (ho:ops[j]? = some o) (hd:o.dst=some d) {vs:Array Value} (hs:e.s d=.v (.tuple vs)):yielded ops a.tmps j=none:=by
 have:=r.slot d;rw[hs]at this;have hv:a.tmps.getD d undef=.tuple vs:=this;cases hg:a.tmps[d]? with
 | none=>simp[yielded,ho,hd,hg]
 | some v =>
  rw[Array.getD_eq_getD_getElem?,hg]at hv;simp at hv;simp[yielded,ho,hd,hg,hv]
theorem qm (hS:dn P S) {F:Fs} {x:Bool} {ops:Array Oper} {i:Nat} {o:Oper} (hi:ops[i]? = some o) {K:Env->Heap->Prop} {E:List PanicEntry->Heap->Prop} (r:Rel D n h0 w0 β e h a w) (hd:∀ d',o.dst=some d'->d' < n)
  (hx:tI P S F x ops.toList o e h K E) {next:Act->World->Prop} {Q:Exit->Act->World->Prop}
  (hk:∀ e' h' qU a' w',K e' h'->Rel D n h0 w0 qU e' h' a' w'->next a' w')
  (hE:∀ c h' a' w',E c h'->cP h0 w0 h' w'->a'.defers=D->Q (.panic c) a' w'):wpOp P ops Q i next a w:=by
 have run:∀ e1,Rel D n h0 w0 β e1 h a w->exec P S F x o e1 h (λs bx h'=>K (e1.put o.dst s bx) h') E->o.wp P a w next Q:=by
  intro e1 r1 FN;exact Ek hS r1 hd FN next Q (λs bx h' qU a' w' hK hR=>hk _ _ qU _ _ hK hR) hE
 have skip:∀ e1,Rel D n h0 w0 β e1 h a w->K (e1.put o.dst (.v undef) none) h->next (a.put o.dst undef) w:=by
  intro e1 r1 hK;exact hk _ _ β _ _ hK (r1.put (cP.refl r1.mv.view) o.dst hd rfl)
 have yes:∀ e1,Region.wanted o (yielded ops a.tmps)=true->Rel D n h0 w0 β e1 h a w->exec P S F x o e1 h (λs bx h'=>K (e1.put o.dst s bx) h') E->wpOp P ops Q i next a w:=by
  intro e1 hw r1 FN;unfold wpOp;simp only[hi,hw,if_true];exact .inl (run e1 r1 FN)
 have no:∀ e1,Region.wanted o (yielded ops a.tmps)=false->Rel D n h0 w0 β e1 h a w->K (e1.put o.dst (.v undef) none) h->wpOp P ops Q i next a w:=by
  intro e1 hw r1 FN;unfold wpOp;simp only[hi,hw,Bool.false_eq_true,if_false];exact skip e1 r1 FN
 unfold tI guardOf at hx;cases hg:o.guard with
 | none =>
  simp only[hg]at hx;exact yes e (by simp[Region.wanted,hg]) r hx
 | some jw =>
  obtain⟨j,want⟩:=jw;simp only[hg,vm,Array.getElem?_toList]at hx;cases ho:ops[j]? with
  | none =>
   simp only[ho]at hx;exact no e (by simp[Region.wanted,hg,yielded,ho]) r hx
  | some o' =>
   simp only[ho]at hx;cases Em:o'.dst with
   | none =>
    simp only[Em]at hx;exact no e (by simp[Region.wanted,hg,yielded,ho,Em]) r hx
   | some d =>
    simp only[Em]at hx;split at hx
    ·rename_i b U;have hy:=El r ho Em U;rcases zQ hx with ⟨rfl,hx⟩|⟨rfl,hx⟩
     ·cases want with
      | true=>exact yes _ (by simp[Region.wanted,hg,hy]) (r.known U) hx
      | false=>exact no _ (by simp[Region.wanted,hg,hy]) (r.known U) hx
     ·cases want with
      | true=>exact no _ (by simp[Region.wanted,hg,hy]) (r.known U) hx
      | false=>exact yes _ (by simp[Region.wanted,hg,hy]) (r.known U) hx
    ·rename_i vs U;exact no e (by simp[Region.wanted,hg,AL r ho Em U]) r hx
    ·exact hx.elim
theorem wj (hS:dn P S) {F:Fs} {ops:Array Oper} (hd:∀ o∈ops.toList,∀ d',o.dst=some d'->d' < n) {K:Env->Heap->Prop} {E:List PanicEntry->Heap->Prop} {Q:Exit->Act->World->Prop}
  (hk:∀ e' h' qU a' w',K e' h'->Rel D n h0 w0 qU e' h' a' w'->Q .normal a' w')
  (hE:∀ c h' a' w',E c h'->cP h0 w0 h' w'->a'.defers=D->Q (.panic c) a' w') :
  ∀(l:List Oper) (k:Nat) (e:Env) (h:Heap) (β:Nat->Nat) (a:Act) (w:World),(∀ j,l[j]? = ops[k+j]?)->Rel D n h0 w0 β e h a w ->
   Ch P S F ops.toList K E l e h->wpOps P ops Q (List.range' k l.length) a w
 | [],k,e,h,β,a,w,_,r,hx=>hk _ _ β _ _ hx r
 | o::l,k,e,h,β,a,w,hl,r,hx=>by
  have h0:ops[k]? = some o:=by simpa using (hl 0).symm
  rw[List.length_cons,List.range'_succ,wpOps_cons];refine qm hS h0 r (hd o (by rw[<-Array.getElem?_toList]at h0;exact List.mem_of_getElem? h0)) hx (λe' h' qU a' w' hK hR=>?_) hE;exact wj hS hd hk hE l (k+1) e' h' qU a' w' (λj=>by have:=hl (j+1);simpa [Nat.add_assoc,Nat.add_comm 1 j]using this) hR hK
def Code.kg (n:Nat):Code->Bool
 | .region _ ops _=>ops.toList.all λo=>match o.dst with|some d=>Nat.blt d n|none=>true
 | .seq a b=>Code.kg n a&&Code.kg n b
 | .cond _ a b=>Code.kg n a&&Code.kg n b
 | .block _ c=>Code.kg n c
 | .loop c=>Code.kg n c
 | .scope c=>Code.kg n c
 | _=>true
theorem sI {n:Nat} {ops:Array Oper} (hx:(ops.toList.all λo=>match o.dst with|some d=>Nat.blt d n|none=>true)=true):∀ o∈ops.toList,∀ d',o.dst=some d'->d' < n:=by
 intro o ho d hd;have:=List.all_eq_true.1 hx o ho;simp only[hd]at this;exact Nat.le_of_ble_eq_true this
def PA (P:Program) (S:nH) (F:Fs) (n:Nat) (id:Nat) (ops:Array Oper):Prop :=
 ∀(D:List Deferred) (K:Env->Heap->Prop) (E:List PanicEntry->Heap->Prop) (Q:Exit->Act->World->Prop) (h0:Heap) (w0:World) (β:Nat->Nat) (e:Env) (h:Heap) (a:Act) (w:World),
  drawn P S F id ops.toList K E e h->Rel D n h0 w0 β e h a w->(∀ e' h' qU a' w',K e' h'->Rel D n h0 w0 qU e' h' a' w'->Q .normal a' w') ->
  (∀ c h' a' w',E c h'->cP h0 w0 h' w'->a'.defers=D->Q (.panic c) a' w')->wpAny P .any ops Q ops.size (Array.replicate ops.size false) a w
def Code.j6 (P:Program) (S:nH) (F:Fs) (n:Nat):Code->Prop
 | .region id ops true=>PA P S F n id ops
 | .seq a b=>Code.j6 P S F n a/\Code.j6 P S F n b
 | .cond _ a b=>Code.j6 P S F n a/\Code.j6 P S F n b
 | .block _ c=>Code.j6 P S F n c
 | .loop c=>Code.j6 P S F n c
 | .scope c=>Code.j6 P S F n c
 | _=>True
def Ss (D:List Deferred) (n:Nat) (h0:Heap) (w0:World) (K:Ex->Env->Heap->Prop):Exit->Act->World->Prop
 | .normal,a,w=>∃ β e h,K .normal e h/\Rel D n h0 w0 β e h a w
 | .exit i,a,w=>∃ β e h,K (.exit i) e h/\Rel D n h0 w0 β e h a w
 | .ret,a,w=>∃ β e h,K .ret e h/\Rel D n h0 w0 β e h a w
 | .panic c,a,w=>∃ e h,K (.lE c) e h/\cP h0 w0 h w/\a.defers=D
 | .goto _,_,_=>False
 | .outgrown,_,_=>False
theorem xL (f:Nat->Slot) (t:Nat):∀ ls:List Nat,ve ls (ls.map f) t=f t\/ve ls (ls.map f) t=.x
 | []=>.inr rfl
 | i::ls=>by
  simp only[List.map_cons,ve];split
  ·rename_i hh;subst hh;exact .inl rfl
  ·exact xL f t ls
theorem qX (f:Nat->Option (List Value)) (t:Nat):∀ bs:List Nat,FH bs (bs.map f) t=if bs.contains t then f t else none
 | []=>rfl
 | i::bs=>by
  simp only[List.map_cons,FH];by_cases hh:t=i
  ·subst hh;simp
  ·rw[if_neg hh,qX f t bs];simp[hh]
theorem Rel.narrow (r:Rel D n h0 w0 β e h a w) (ls bs:List Nat):Rel D n h0 w0 β (xB ls bs (ls.map e.s) (bs.map e.b)) h a w where
 size:=r.size
 xD:=r.xD
 slot t:=by
  have U:∀ u,(xB ls bs (ls.map e.s) (bs.map e.b)).b u=if bs.contains u then e.b u else none:=λu=>qX e.b u bs
  show lR β _ ((ve ls (ls.map e.s) t).clean bs) _;have r0:=r.slot t;rcases xL e.s t ls with hh|hh
  ·rw[hh];revert r0
   cases e.s t with
   | v x=>exact id
   | x=>exact id
   | l u off =>
    intro r0;simp only[Slot.clean];split
    ·rename_i hc;exact⟨r0.1,by rw[U,if_pos hc];exact r0.2⟩
    ·trivial
   | r u k =>
    intro r0;simp only[Slot.clean];split
    ·rename_i hc;exact⟨r0.1,by rw[U,if_pos hc];exact r0.2⟩
    ·trivial
  ·rw[hh];trivial
 box t cs U:=by
  have:(xB ls bs (ls.map e.s) (bs.map e.b)).b t=if bs.contains t then e.b t else none:=qX e.b t bs
  rw[this]at U;split at U
  ·exact r.box t cs U
  ·cases U
 inj t u ht hu GH:=by
  have U:∀ u,(xB ls bs (ls.map e.s) (bs.map e.b)).b u=if bs.contains u then e.b u else none:=λu=>qX e.b u bs
  rw[U]at ht hu;refine r.inj t u ?_ ?_ GH
  ·split at ht
   ·exact ht
   ·cases ht
  ·split at hu
   ·exact hu
   ·cases hu
 mv:=r.mv
theorem IJ {c:Code} {Q:Exit->Act->World->Prop} (I:Nat->Act->World->Prop) (k0:Nat) (Y7:I k0 a w)
  (round:∀ k a w,I k a w->c.wp P (Exit.then (λa' w'=>∃ m,m < k/\I m a' w') Q) a w):(Code.loop c).wp P Q a w:=by
 intro b k cs;have key:∀ i a w,I i a w->∃ e a' w',Q e a' w'/\Arrives P (lone (b.at a (.code c::.inLoop c::k)) cs w) b k cs e a' w':=by
  intro i;induction i using Nat.strongRecOn with
  | _ i ih =>
   intro a w hI;obtain⟨e,GK,GL,hq,qk⟩:=round i a w hI b (.inLoop c::k) cs;cases e with
   | normal =>
    obtain⟨m,iS,Su⟩:=hq;obtain⟨Y8,Y9,Za,Sv,Ml⟩:=ih m iS GK GL Su;exact⟨Y8,Y9,Za,Sv,.of_steps (Steps.trans qk (.one step_inLoop)) Ml⟩
   | exit id=>exact⟨_,GK,GL,hq,.pass (x:=.inLoop c) rfl (λ_ _=>.inl (by simp)) qk⟩
   | goto l=>exact⟨_,GK,GL,hq,.pass (x:=.inLoop c) rfl (λ_ _=>.inl (by simp)) qk⟩
   | ret=>exact⟨_,GK,GL,hq,.pass (x:=.inLoop c) rfl (λ_ _=>.inl (by simp)) qk⟩
   | panic ch=>exact⟨_,GK,GL,hq,.pass (x:=.inLoop c) rfl (λ_ _=>.inl (by simp)) qk⟩
   | outgrown=>exact⟨_,GK,GL,hq,.pass (x:=.inLoop c) rfl (λ_ _=>.inl (by simp)) qk⟩
 obtain⟨e,a',w',hq,qk⟩:=key _ a w Y7;exact⟨e,a',w',hq,.of_steps (.one step_loop) qk⟩
theorem qY (hS:dn P S) (F:Fs):∀(c:Code) (K:Ex->Env->Heap->Prop) (β:Nat->Nat) (e:Env) (h:Heap) (a:Act) (w:World),
  Code.kg n c=true->Code.j6 P S F n c->den P S F c K e h->Rel D n h0 w0 β e h a w->c.wp P (Ss D n h0 w0 K) a w:=by
 intro c;induction c with
 | skip=>intro K β e h a w _ _ hx r;exact wp_skip ⟨β,e,h,hx,r⟩
 | label l=>intro K β e h a w _ _ hx r;exact wp_label ⟨β,e,h,hx,r⟩
 | exit i=>intro K β e h a w _ _ hx r;exact wp_exit ⟨β,e,h,hx,r⟩
 | ret=>intro K β e h a w _ _ hx r;exact wp_ret ⟨β,e,h,hx,r⟩
 | region id ops dr =>
  intro K β e h a w hd hp hx r;cases dr with
  | false =>
   simp only[den]at hx;refine wp_region ?_;have:=wj (Q:=Ss D n h0 w0 K) hS (sI hd) (λe' h' qU a' w' hK hR=>⟨qU,e',h',hK,hR⟩) (λc h' a' w' hE hM hD=>⟨e,h',hE,hM,hD⟩) ops.toList 0 e h β a w (λj=>by simp) r hx;rw[List.range_eq_range'];simpa using this
  | true =>
   simp only[den]at hx;refine wp_region_any hS.mix ?_;exact hp _ _ _ _ h0 w0 β e h a _ hx ⟨r.size,r.xD,r.slot,r.box,r.inj,⟨r.mv.view,r.mv.aG,r.mv.xd,r.mv.size,r.mv.fz,r.mv.out⟩⟩ (λe' h' qU a' w' hK hR=>⟨qU,e',h',hK,hR⟩) (λc h' a' w' hE hM hD=>⟨e,h',hE,hM,hD⟩)
 | seq c1 c2 ih1 ih2 =>
  intro K β e h a w hd hp hx r;simp only[Code.kg,Bool.and_eq_true]at hd;refine wp_seq (wp_mono (ih1 _ β e h a w hd.1 hp.1 hx r) ?_);intro ex a' w' cQ;cases ex with
  | normal=>obtain⟨qU,e',h',hK,hR⟩:=cQ;exact ih2 K qU e' h' a' w' hd.2 hp.2 hK hR
  | exit i=>exact cQ
  | ret=>exact cQ
  | panic ch=>exact cQ
  | goto l=>exact cQ
  | outgrown=>exact cQ
 | cond c x y ihx ihy =>
  intro K β e h a w hd hp hx r;simp only[Code.kg,Bool.and_eq_true]at hd;simp only[den]at hx;split at hx
  ·rename_i t ht;refine wp_cond (r.eval ht) ?_;rcases zQ hx with ⟨rfl,hx⟩|⟨rfl,hx⟩
   ·exact ihx K β e h a w hd.1 hp.1 hx r
   ·exact ihy K β e h a w hd.2 hp.2 hx r
  ·exact hx.elim
 | block id c ih =>
  intro K β e h a w hd hp hx r;refine wp_block (wp_mono (ih _ β e h a w hd hp hx r) ?_);intro ex a' w' cQ;cases ex with
  | normal=>exact cQ
  | exit i =>
   obtain⟨qU,e',h',hK,hR⟩:=cQ;simp only[Exit.inBlock];by_cases hi:i=id
   ·rw[if_pos hi];have:Nat.beq i id=true:=by rw[hi];exact Nat.beq_refl id
    simp only[this]at hK;exact⟨qU,e',h',hK,hR⟩
   ·rw[if_neg hi];have:Nat.beq i id=false:=by
     cases U:Nat.beq i id with
     | true=>exact absurd (Nat.eq_of_beq_eq_true U) hi
     | false=>rfl
    simp only[this]at hK;exact⟨qU,e',h',hK,hR⟩
  | ret=>exact cQ
  | panic ch=>exact cQ
  | goto l=>exact cQ
  | outgrown=>exact cQ
 | loop c ih =>
  intro K β e h a w hd hp hx r;simp only[den]at hx;rw[It]at hx;unfold Yd at hx;obtain⟨ls,bs,Inv,⟨k,hk⟩,fW⟩:=hx;refine IJ (λk a w=>∃ β e h,Inv k (ls.map e.s) (bs.map e.b) h/\Rel D n h0 w0 β e h a w) k ⟨β,e,h,hk,r⟩ ?_;rintro k1 a1 w1 ⟨Zb,e1,h1,hI,r1⟩;refine wp_mono (ih _ Zb _ h1 a1 w1 hd hp (fW k1 _ _ h1 hI) (r1.narrow ls bs)) ?_;intro ex a' w' cQ;cases ex with
  | normal=>obtain⟨qU,e',h',⟨m,hm,hI'⟩,hR⟩:=cQ;exact⟨m,hm,qU,e',h',hI',hR⟩
  | exit i=>exact cQ
  | ret=>exact cQ
  | panic ch=>exact cQ
  | goto l=>exact cQ
  | outgrown=>exact cQ
 | scope c ih =>
  intro K β e h a w hd hp hx r;refine wp_scope_straight (wp_mono (ih K β e h a w hd hp hx r) ?_);intro ex a' w' cQ;cases ex with
  | goto l=>exact cQ.elim
  | _=>exact cQ
 | goto l=>intro K β e h a w _ _ hx r;exact hx.elim
 | refuse y=>intro K β e h a w _ _ hx r;exact hx.elim
 | rangeFunc f ps as b _ _=>intro K β e h a w _ _ hx r;exact hx.elim
def ki (args:List Value):Env:=⟨λt=>match args[t]? with|some v=>.v v|none=>.v undef,λ_=>none⟩
def gC (S:nH) (e:Env) (h:Heap):List ResultVar->(List Value->Prop)->Prop
 | [],K=>K []
 | .tmp t::r,K=>match e.s t with
  | .v v=>gC S e h r λvs=>K (v::vs)
  | _=>False
 | .cell t ty::r,K=>match S.ty.find ty with
  | some ti=>load ti (e.s t) e h λs _ _=>match s with
   | .v v=>gC S e h r λvs=>K (v::vs)
   | _=>False
  | none=>False
def kG (K:Value->Prop):List Value->Prop
 | [v]=>K v
 | vs=>K (.tuple ⟨vs⟩)
def Fin (S:nH) (res:List ResultVar) (R:Out->Heap->Prop):Ex->Env->Heap->Prop
 | .normal,e,h=>gC S e h res λvs=>kG (λv=>R (.ret v) h) vs
 | .ret,e,h=>gC S e h res λvs=>kG (λv=>R (.ret v) h) vs
 | .exit _,_,_=>False
 | .lE c,_,h=>R (.lE c) h
theorem vn {fn:Func} {args:List Value} (hn:args.length<=fn.ntmps) (hv:∀ b o,h b=some o->w.heap[b]? = some o) :
  Rel [] fn.ntmps h w (λ_=>0) (ki args) h {tmps:=args.toArray++Array.replicate (fn.ntmps-args.toArray.size) undef,defers:=[]} w where
 size:=by simp;omega
 xD:=rfl
 slot t:=by
  simp only[ki];cases ht:args[t]? with
  | some v =>
   obtain⟨iS,hg⟩:=List.getElem?_eq_some_iff.1 ht;show _=v;simp[Array.getD_eq_getD_getElem?,Array.getElem?_append,iS,hg]
  | none =>
   have FO:args.length<=t:=by simpa using ht
   show _=undef;rw[Array.getD_eq_getD_getElem?,Array.getElem?_append_right (by simpa using FO),Array.getElem?_replicate];split<;>rfl
 box t cs U:=by simp[ki]at U
 inj t u ht:=by simp[ki]at ht
 mv:=cP.refl hv
theorem ni (hS:dn P S) (r:Rel D n h0 w0 β e h a w):∀(res:List ResultVar) (K:List Value->Prop),gC S e h res K ->
  ∃ vs,K vs/\(res.mapM (m:=Sem) fun
   | .tmp t=>pure (a.tmps.getD t undef)
   | .cell x t=>do loadVar t (<-asAddr (a.tmps.getD x undef))).run P w=.ok vs w
 | [],K,hx=>⟨[],hx,rfl⟩
 | .tmp t::res,K,hx=>by
  simp only[gC]at hx;split at hx
  ·rename_i v hv;obtain⟨vs,h1,h2⟩:=ni hS r res _ hx;refine⟨v::vs,h1,?_⟩;have hs:=r.slot t;rw[hv]at hs;rw[List.mapM_cons];simp only[Sem.run_bind,Sem.run_pure,Result.andThen_ok,h2];rw[show a.tmps.getD t undef=v from hs]
  ·exact hx.elim
 | .cell t ty::res,K,hx=>by
  simp only[gC]at hx;split at hx
  ·rename_i ti cO;obtain⟨ad,v,g1,g2,g3⟩:=zI (x:=.tmp t) hS r cO hx;obtain⟨vs,h1,h2⟩:=ni hS r res _ g3;refine⟨v::vs,h1,?_⟩;have g1:a.tmps.getD t undef=.pointer (some ad):=g1;rw[List.mapM_cons];have ga:(asAddr (.pointer (some ad))).run P w=.ok ad w:=rfl;simp only[Sem.run_bind,g1,ga,Sem.run_pure,Result.andThen_ok,g2,h2]
  ·exact hx.elim
theorem nj (hS:dn P S) (r:Rel D n h0 w0 β e h a w) {fn:Func} {R:Out->Heap->Prop} (hx:gC S e h fn.results.toList λvs=>kG (λv=>R (.ret v) h) vs) :
  ∃ v,(results fn a.tmps).run P w=.ok v w/\R (.ret v) h:=by
 obtain⟨vs,h1,h2⟩:=ni hS r _ _ hx;have eM:(results fn a.tmps).run P w=.ok (if h:vs.toArray.size=1 then vs.toArray[0]else .tuple vs.toArray) w:=by
  unfold results;rw[Array.mapM_eq_mapM_toList];simp only[Sem.run_bind,Sem.run_map,Sem.run_pure];exact(congrArg (λr:Result (List Value)=>(r.andThen λa w'=>Result.ok a.toArray w').andThen λa w'=>Result.ok (if h:a.size=1 then a[0]else Value.tuple a) w') h2).trans rfl
 refine⟨_,eM,?_⟩;match vs,h1 with
 | [],h1=>simpa [kG]using h1
 | [v],h1=>simpa [kG]using h1
 | u::v::r,h1=>simpa [kG]using h1
theorem AM (hS:dn P S) (F:Fs) {f:FuncId} {fn:Func} {c:Code} {args:List Value} {R:Out->Heap->Prop} (hf:P.funcs[f]? = some fn) (U:fn.body=some c) (hn:args.length<=fn.ntmps)
  (hd:Code.kg fn.ntmps c=true) (hp:Code.j6 P S F fn.ntmps c) (hx:den P S F c (Fin S fn.results.toList R) (ki args) h):cH P f args h R:=by
 intro w hv;refine calls_of_wp hf U (wp_mono (qY hS F c _ _ _ _ _ _ hd hp hx (vn hn hv)) ?_);intro ex a' w' cQ;cases ex with
 | normal=>obtain⟨β,e,h',hK,hR⟩:=cQ;obtain⟨v,h1,h2⟩:=nj hS hR hK;exact⟨hR.xD,v,h1,h',hR.mv,h2⟩
 | ret=>obtain⟨β,e,h',hK,hR⟩:=cQ;obtain⟨v,h1,h2⟩:=nj hS hR hK;exact⟨hR.xD,v,h1,h',hR.mv,h2⟩
 | exit i=>obtain⟨β,e,h',hK,hR⟩:=cQ;exact hK.elim
 | panic ch=>obtain⟨e,h',hK,hM,hD⟩:=cQ;exact⟨hD,h',hM,hK⟩
 | goto l=>exact cQ.elim
 | outgrown=>exact cQ.elim
end Go.Vc
