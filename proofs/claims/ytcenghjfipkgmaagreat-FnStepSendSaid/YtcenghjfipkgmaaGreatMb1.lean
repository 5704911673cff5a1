/- Part 1 of the lemmas on which the law rests: what functions of the program and of the reference do; no conditions but those that each lemma states. -/
import Derived.Calls
import Derived.KernelRfl
import Derived.Laws.Sem
import Derived.Deep.Quiet
import Derived.Scope
set_option linter.unusedSimpArgs false
set_option linter.unusedVariables false
namespace Go.Vc
set_option linter.constructorNameAsVariable false
abbrev Heap:=Nat->Option Obj
def Heap.set (h:Heap) (b:Nat) (o:Obj):Heap:=λc=>if c=b then some o else h c
def Heap.le (h h':Heap):Prop:=∀ b o,h b=some o->h' b=some o
inductive Slot where
 | v (x:Value)
 | l (t off:Nat)
 | r (t len:Nat)
 | x
structure Env where
 s:Nat->Slot
 b:Nat->Option (List Value)
def Env.get (e:Env):Operand->Slot
 | .tmp t=>e.s t
 | .const v=>.v v
 | .global g=>.v (.pointer (some ⟨g,0,none⟩))
 | .func f=>.v (.func (.func f) #[] #[])
abbrev Bx:=Option (Nat × List Value)
def Env.put (e:Env) (d:Option Nat) (x:Slot) (bx:Bx):Env :=
 ⟨match d with|none=>e.s|some d=>λt=>if t=d then x else e.s t,
  match bx with|none=>e.b|some (d,cs)=>λt=>if t=d then some cs else e.b t⟩
inductive TD where
 | bas|num (k:IntKind)|UO|str (fs:List (Nat × TypeId))|arr (n:Nat) (e:TypeId)|sl (e:TypeId)|ptr (e:TypeId)|UP|dU
structure TI where
 size:Nat
 bytes:Nat
 zero:List Value
 agg:Bool
 d:TD
inductive Tree (α:Type) where
 | leaf
 | node (l:Tree α) (k:Nat) (v:α) (r:Tree α)
def Tree.find {α:Type} (i:Nat):Tree α->Option α
 | .leaf=>none
 | .node l k v r=>match Nat.beq i k with
  | true=>some v
  | false=>match Nat.blt i k with
   | true=>l.find i
   | false=>r.find i
structure oD where
 ty:Tree TI
 lo:Nat
 nf:Nat
inductive PT where
 | nil
 | eO
 | one (i:Nat) (r:PT)
 | alt (i:Nat) (t r:PT)
structure Fs where
 L:List Nat:=[]
 LL:List Nat:=[]
 cq:List (Nat × List Nat):=[]
 trees:List (Nat × PT):=[]
 M:List Nat:=[]
inductive Out where
 | ret (v:Value)
 | lY (c:List PanicEntry)
inductive Ex where
 | normal
 | exit (id:Nat)
 | ret
 | lY (c:List PanicEntry)
structure dn (h:Heap) (w:World) (h':Heap) (w':World):Prop where
 view:∀ b o,h' b=some o->w'.heap[b]? = some o
 aJ:∀ b,b < w.heap.size->h b=none->w'.heap[b]? = w.heap[b]?
 x9:∀ b,h' b≠none->h b≠none\/w.heap.size<=b
 size:w.heap.size<=w'.heap.size
 fz:∀(b:Nat) (cs:Array Value) (t:TypeId) (z:Nat × Nat),w'.heap[b]? = some (Obj.cells cs t z)->z=(0,0)\/w.heap[b]? = some (Obj.cells cs t z)
 out:w'.os=w.os/\w'.tape=w.tape/\w'.output=w.output
def cZ (P:Program) (f:FuncId) (args:List Value) (h:Heap) (R:Out->Heap->Prop):Prop :=
 ∀ w:World,(∀ b o,h b=some o->w.heap[b]? = some o) ->
  Calls P f args.toArray w λe w'=>∃ h':Heap,dn h w h' w' /\
   match e with
   | .returned v=>R (.ret v) h'
   | .panicked c=>R (.lY c) h'
   | .outgrown=>False
def yp (P:Program) (f:FuncId) (args:List Value) (h:Heap) (K:Value->Heap->Prop) (E:List PanicEntry->Heap->Prop):Prop :=
 cZ P f args h λo h'=>match o with | .ret v=>K v h' | .lY c=>E c h'
structure Call (P:Program) (f:FuncId) (args:List Value) (h:Heap) (K:Value->Heap->Prop) (E:List PanicEntry->Heap->Prop):Prop where
 run:yp P f args h K E
theorem uF:Call=yp:=by
 funext _ _ _ _ _ _;exact propext ⟨λh=>h.run,λh=>⟨h⟩⟩
def v9 (P:Program) (f:FuncId) (args:List Value) (h:Heap) (K:Value->Heap->Prop) (E:List PanicEntry->Heap->Prop):Prop :=
 cZ P f args h λo h'=>match o with | .ret v=>h.le h'/\K v h' | .lY c=>E c h'
structure iF (P:Program) (f:FuncId) (args:List Value) (h:Heap) (K:Value->Heap->Prop) (E:List PanicEntry->Heap->Prop):Prop where
 run:v9 P f args h K E
theorem sr:iF=v9:=by
 funext _ _ _ _ _ _;exact propext ⟨λh=>h.run,λh=>⟨h⟩⟩
def Ob_ (p K:Prop):Prop:=p/\K
structure Ob (p K:Prop):Prop where
 run:Ob_ p K
theorem J3:Ob=Ob_:=by
 funext _ _;exact propext ⟨λh=>h.run,λh=>⟨h⟩⟩
def Ar_ (k:IntKind) (x:Int) (K:Int->Prop):Prop:=K (k.wrap x)
structure Ar (k:IntKind) (x:Int) (K:Int->Prop):Prop where
 run:Ar_ k x K
theorem Rv:Ar=Ar_:=by
 funext _ _ _;exact propext ⟨λh=>h.run,λh=>⟨h⟩⟩
def BO (h:Heap) (cs:List Value) (t:TypeId) (K:Nat->Heap->Prop):Prop :=
 ∀ b,h b=none->K b (h.set b (.cells cs.toArray t))
structure JQ (h:Heap) (cs:List Value) (t:TypeId) (K:Nat->Heap->Prop):Prop where
 run:BO h cs t K
theorem pK:JQ=BO:=by
 funext _ _ _ _;exact propext ⟨λh=>h.run,λh=>⟨h⟩⟩
def rd (h:Heap) (b off:Nat):Option Value:=match h b with
 | some (.cells c _ _)=>c[off]?
 | _=>none
def fj (h:Heap) (b:Nat):Nat->Nat->Option (List Value)
 | _,0=>some []
 | off,n+1=>match rd h b off,fj h b (off+1) n with
  | some v,some r=>some (v::r)
  | _,_=>none
def Rw (h:Heap) (b off:Nat) (K:Value->Prop):Prop:=∃ v,rd h b off=some v/\K v
structure Ld (h:Heap) (b off:Nat) (K:Value->Prop):Prop where
 run:Rw h b off K
theorem yq:Ld=Rw:=by
 funext _ _ _ _;exact propext ⟨λh=>h.run,λh=>⟨h⟩⟩
def Fy (h:Heap) (b off n:Nat) (K:List Value->Prop):Prop:=∃ vs,fj h b off n=some vs/\K vs
structure LdN (h:Heap) (b off n:Nat) (K:List Value->Prop):Prop where
 run:Fy h b off n K
theorem uG:LdN=Fy:=by
 funext _ _ _ _ _;exact propext ⟨λh=>h.run,λh=>⟨h⟩⟩
def Du (p:Option Addr) (K:Nat->Nat->Prop):Prop:=∃ b off,p=some ⟨b,off,none⟩/\K b off
structure Ptr (p:Option Addr) (K:Nat->Nat->Prop):Prop where
 run:Du p K
theorem su:Ptr=Du:=by
 funext _ _;exact propext ⟨λh=>h.run,λh=>⟨h⟩⟩
def Fz (h:Heap) (p:Option Addr) (k:Nat) (K:List Value->Prop):Prop:=((p=none\/k=0)/\K [])\/∃ b off vs,p=some ⟨b,off,none⟩/\fj h b off k=some vs/\K vs
structure Ua (h:Heap) (p:Option Addr) (k:Nat) (K:List Value->Prop):Prop where
 run:Fz h p k K
theorem uH:Ua=Fz:=by
 funext _ _ _ _;exact propext ⟨λh=>h.run,λh=>⟨h⟩⟩
def Nt:List Value->Nat->Value->List Value
 | [],_,_=>[]
 | _::r,0,v=>v::r
 | a::r,n+1,v=>a::Nt r n v
def eS (cs:List Value) (off:Nat):List Value->List Value
 | []=>cs
 | v::r=>eS (Nt cs off v) (off+1) r
def UQ (h:Heap) (b off:Nat) (vs:List Value) (K:Heap->Prop):Prop :=
 ∃ cs t,h b=some (.cells cs t (0,0))/\off+vs.length<=cs.size/\K (h.set b (.cells (eS cs.toList off vs).toArray t (0,0)))
structure St (h:Heap) (b off:Nat) (vs:List Value) (K:Heap->Prop):Prop where
 run:UQ h b off vs K
theorem FA:St=UQ:=by
 funext _ _ _ _ _;exact propext ⟨λh=>h.run,λh=>⟨h⟩⟩
def take:Nat->List Value->Option (List Value)
 | 0,_=>some []
 | _+1,[]=>none
 | n+1,a::r=>match take n r with
  | some t=>some (a::t)
  | none=>none
def drop:Nat->List Value->List Value
 | 0,l=>l
 | _+1,[]=>[]
 | n+1,_::r=>drop n r
def lJ:List Value->(List Value->Prop)->Prop
 | [],K=>K []
 | a::r,K=>lJ r λr'=>K (a::r')
def pL (place:Nat->Option Nat) (cs:List Value):List (Nat × List Value)->Option (List Value)
 | []=>some cs
 | (i,vs)::r=>match place i with
  | some off=>match (off+vs.length).ble cs.length with
   | true=>pL place (eS cs off vs) r
   | false=>none
  | none=>none
def Al (P:Program) (o:Oper) (e:Env) (h:Heap) (K:Value->Heap->Prop):Prop :=
 (∀ x∈o.op.operands,∃ v,e.get x=.v v)/\∀ ρ:Operand->Value,(∀ x∈o.op.operands,e.get x=.v (ρ x))->∀ w:World,(∀ b o,h b=some o->w.heap[b]? = some o) ->
  ∃ v w' h',((execOp ρ o).run P w=.ok (.value v) w'\/(execOp ρ o).run P w=.ok .skip w'/\v=undef)/\dn h w h' w'/\K v h'
structure Raw (P:Program) (o:Oper) (e:Env) (h:Heap) (K:Value->Heap->Prop):Prop where
 run:Al P o e h K
theorem nL:Raw=Al:=by
 funext _ _ _ _ _;exact propext ⟨λh=>h.run,λh=>⟨h⟩⟩
def yt (P:Program) (o:Oper) (e:Env) (K:Value->Prop):Prop :=
 (∀ x∈o.op.operands,∃ v,e.get x=.v v)/\∃ v,K v/\∀ ρ:Operand->Value,(∀ x∈o.op.operands,e.get x=.v (ρ x))->∀ w:World,(execOp ρ o).run P w=.ok (.value v) w
structure N6 (P:Program) (o:Oper) (e:Env) (K:Value->Prop):Prop where
 run:yt P o e K
theorem qR:N6=yt:=by
 funext _ _ _ _;exact propext ⟨λh=>h.run,λh=>⟨h⟩⟩
def Am (P:Program) (o:Oper) (e:Env) (h:Heap) (x:Bool) (K:Slot->Bx->Heap->Prop):Prop:=match x with
 | true=>N6 P o e λv=>K (.v v) none h
 | false=>Raw P o e h λv h'=>K (.v v) none h'
def mP:Value->Bool
 | .agg _=>false
 | .tuple _=>false
 | _=>true
def eu:List Value->Bool
 | []=>true
 | v::r=>match mP v with
  | true=>eu r
  | false=>false
def BP (bytes size:Nat) (zero:List Value) (elem:TypeId) (h:Heap) (a:Option Addr) (n cap m:Nat) (vs:List Value) (K:Value->Heap->Prop):Prop :=
 (n+m<=cap->eu vs=true/\match a with
  | some ⟨b,off,none⟩=>∃ cs t,h b=some (.cells cs t (0,0))/\off+n*size+vs.length<=cs.size /\
    K (.slice a (n+m) cap) (h.set b (.cells (eS cs.toList (off+n*size) vs).toArray t (0,0)))
  | some _=>False
  | none=>vs=[]/\K (.slice none (n+m) cap) h) /\
 (cap < n+m->(n+m)*bytes<=2 ^ 44/\n+m<=2 ^ 44/\∃ iB,(match a with
  | some ⟨b,off,none⟩=>fj h b off (n*size)=some iB
  | some _=>False
  | none=>n=0/\iB=[]) /\
  ∀ b c,h b=none->n+m<=c->K (.slice (some ⟨b,0,none⟩) (n+m) c) (h.set b (.cells (iB++vs++(List.replicate (c-(n+m)) zero).flatten).toArray elem)))
structure App (bytes size:Nat) (zero:List Value) (elem:TypeId) (h:Heap) (a:Option Addr) (n cap m:Nat) (vs:List Value) (K:Value->Heap->Prop):Prop where
 run:BP bytes size zero elem h a n cap m vs K
theorem pM:App=BP:=by
 funext _ _ _ _ _ _ _ _ _ _ _;exact propext ⟨λh=>h.run,λh=>⟨h⟩⟩
def we (ls:List Nat) (vs:List Slot) (t:Nat):Slot :=
 match ls,vs with
 | i::ls,v::vs=>if t=i then v else we ls vs t
 | _,_=>.x
def Hj (bs:List Nat) (cs:List (Option (List Value))) (t:Nat):Option (List Value) :=
 match bs,cs with
 | i::bs,c::cs=>if t=i then c else Hj bs cs t
 | _,_=>none
def Slot.clean (bs:List Nat):Slot->Slot
 | .l t off=>if bs.contains t then .l t off else .x
 | .r t n=>if bs.contains t then .r t n else .x
 | s=>s
def yu (ls bs:List Nat) (vs:List Slot) (cs:List (Option (List Value))):Env:=⟨λt=>(we ls vs t).clean bs,Hj bs cs⟩
def Lp_ (body:(Ex->Env->Heap->Prop)->Env->Heap->Prop) (K:Ex->Env->Heap->Prop) (e:Env) (h:Heap):Prop :=
 ∃(ls bs:List Nat) (Inv:Nat->List Slot->List (Option (List Value))->Heap->Prop),(∃ n,Inv n (ls.map e.s) (bs.map e.b) h)/\∀ n vs cs h,Inv n vs cs h ->
  body (λx e' h'=>match x with | .normal=>∃ m,m < n/\Inv m (ls.map e'.s) (bs.map e'.b) h' | .exit i=>K (.exit i) e' h' | .ret=>K .ret e' h' | .lY c=>K (.lY c) e' h') (yu ls bs vs cs) h
structure Lp (body:(Ex->Env->Heap->Prop)->Env->Heap->Prop) (K:Ex->Env->Heap->Prop) (e:Env) (h:Heap):Prop where
 run:Lp_ body K e h
theorem J4:Lp=Lp_:=by
 funext _ _ _ _;exact propext ⟨λh=>h.run,λh=>⟨h⟩⟩
def fG (b:Bool) (t f:Prop):Prop:=@Bool.rec (λ_=>Prop) f t b
def yw (e:Env) (t off n:Nat):Option (List Value):=match e.b t with
 | some cs=>take n (drop off cs)
 | none=>none
def load (ti:TI) (x:Slot) (e:Env) (h:Heap) (K:Slot->Bx->Heap->Prop):Prop :=
 match x with
 | .l t off=>match yw e t off ti.size with
  | some vs=>match ti.agg with
   | true=>lJ vs λvs=>K (.v (.agg ⟨vs⟩)) none h
   | false=>match vs with
    | [v]=>K (.v v) none h
    | _=>False
  | none=>False
 | .v (.pointer (some ⟨b,off,none⟩))=>match ti.agg with
  | true=>LdN h b off ti.size λvs=>K (.v (.agg ⟨vs⟩)) none h
  | false=>match ti.size with
   | 1=>Ld h b off λv=>K (.v v) none h
   | _=>False
 | _=>False
def cellsOf:Value->List Value
 | .agg cs=>cs.toList
 | v=>[v]
def mq (ti:TI) (v:Value) (K:List Value->Prop):Prop :=
 match ti.agg with
 | true=>match v with
  | .agg cs=>lJ cs.toList λvs=>match vs.length.beq ti.size with
   | true=>K vs
   | false=>False
  | _=>False
 | false=>match mP v with
  | true=>K [v]
  | false=>False
def store (ti:TI) (x:Slot) (v:Value) (e:Env) (h:Heap) (K:Slot->Bx->Heap->Prop):Prop :=
 mq ti v λvs=>match eu vs with
 | false=>False
 | true=>match x with
 | .l t off=>match e.b t with
  | some cs=>match (off+vs.length).ble cs.length with
   | true=>lJ (eS cs off vs) λjU=>K (.v undef) (some (t,jU)) h
   | false=>False
  | none=>False
 | .v (.pointer (some ⟨b,off,none⟩))=>St h b off vs λh'=>K (.v undef) none h'
 | _=>False
def aW (e:Env):List Operand->(List Value->Prop)->Prop
 | [],K=>K []
 | o::r,K=>match e.get o with
  | .v x=>aW e r λr'=>K (x::r')
  | _=>False
def parts (e:Env) (sW:Nat->Option TI):List (Nat × Operand)->(List (Nat × List Value)->Prop)->Prop
 | [],K=>K []
 | (i,o)::r,K=>match e.get o,sW i with
  | .v x,some ti=>mq ti x λvs=>parts e sW r λr'=>K ((i,vs)::r')
  | _,_=>False
def sameKind:IntKind->IntKind->Bool
 | .i64,.i64=>true
 | .u8,.u8=>true
 | .i8,.i8=>true
 | .u64,.u64=>true
 | .i32,.i32=>true
 | .u32,.u32=>true
 | _,_=>false
def mx (x y:Int):Int:=if x < y then y else x
def mn (x y:Int):Int:=if y < x then y else x
def xl (op:BinOp) (k:IntKind) (x y:Int):Int :=
 let a:=BitVec.ofInt k.bits x
 let b:=BitVec.ofInt k.bits y
 match op with
 | .and=>k.wrap (a &&& b).toNat
 | .or=>k.wrap (a ||| b).toNat
 | .xor=>k.wrap (a ^^^ b).toNat
 | _=>k.wrap (a &&& ~~~b).toNat
def wg (op:BinOp) (k:IntKind) (a b:Int) (K:Value->Prop) (raw:Prop):Prop :=
 match op with
 | .add=>Ar k (a+b) λn=>K (.int k n)
 | .sub=>Ar k (a-b) λn=>K (.int k n)
 | .mul=>Ar k (a*b) λn=>K (.int k n)
 | .quo=>Ob (b≠0) (Ar k (a.tdiv b) λn=>K (.int k n))
 | .rem=>Ob (b≠0) (K (.int k (a.tmod b)))
 | .eql=>K (.bool (decide (a=b)))
 | .neq=>K (.bool (!decide (a=b)))
 | .lss=>K (.bool (decide (a < b)))
 | .leq=>K (.bool (decide (a<=b)))
 | .gtr=>K (.bool (decide (b < a)))
 | .geq=>K (.bool (decide (b<=a)))
 | .and=>K (.int k (xl .and k a b))
 | .or=>K (.int k (xl .or k a b))
 | .xor=>K (.int k (xl .xor k a b))
 | .andNot=>K (.int k (xl .andNot k a b))
 | _=>raw
def J5 (a:Option Addr) (cap l size:Nat) (K:Option Addr->Prop):Prop :=
 ∀ oa,(cap≠l->oa=a.map λa=>a.add (l*size))->(cap=l->oa=a)->K oa
structure Sub (a:Option Addr) (cap l size:Nat) (K:Option Addr->Prop):Prop where
 run:J5 a cap l size K
theorem BQ:Sub=J5:=by
 funext _ _ _ _ _;exact propext ⟨λh=>h.run,λh=>⟨h⟩⟩
def pN (size:Nat) (a:Option Addr) (cap:Nat) (lo:Option Slot) (h:Nat) (K:Value->Prop):Prop :=
 match lo with
 | none=>K (.slice a h cap)
 | some (.v (.int _ l))=>Ob (0<=l/\l<=h) (Sub a cap l.toNat size λoa=>K (.slice oa (h-l.toNat) (cap-l.toNat)))
 | some _=>False
def pO (size:Nat) (a:Option Addr) (n cap:Nat) (lo hi:Option Slot) (K:Value->Prop):Prop :=
 match hi with
 | none=>pN size a cap lo n K
 | some (.v (.int _ x))=>Ob (0<=x/\x<=cap) (pN size a cap lo x.toNat K)
 | some _=>False
def N7 (d:Nat):List Nat->Bool
 | []=>false
 | i::r=>match Nat.beq d i with
  | true=>true
  | false=>N7 d r
def Rx (F:Fs):Operand->Bool
 | .func g=>N7 g F.M
 | _=>false
def isLocal (F:Fs):Option Nat->Option Nat
 | some d=>match N7 d F.L with
  | true=>some d
  | false=>none
 | none=>none
def newVar (F:Fs) (t:TypeId) (d:Option Nat) (cs:List Value) (e:Env) (h:Heap) (K:Slot->Bx->Heap->Prop):Prop :=
 match isLocal F d with
 | some d=>match e.b d with
  | none=>lJ cs λcs=>K (.l d 0) (some (d,cs)) h
  | some _=>False
 | none=>JQ h cs t λb h'=>K (.v (.pointer (some ⟨b,0,none⟩))) none h'
def newRow (F:Fs) (t:TypeId) (d:Option Nat) (n:Nat) (cs:List Value) (e:Env) (h:Heap) (K:Slot->Bx->Heap->Prop):Prop :=
 match isLocal F d with
 | some d=>match e.b d with
  | none=>lJ cs λcs=>K (.r d n) (some (d,cs)) h
  | some _=>False
 | none=>JQ h cs t λb h'=>K (.v (.slice (some ⟨b,0,none⟩) n n)) none h'
def FC (S:oD) (d:TD):Option ((Nat->Option Nat) × (Nat->Option TI)) :=
 match d with
 | .str fs=>some ((λi=>match fs[i]? with|some (o,_)=>some o|none=>none),(λi=>match fs[i]? with|some (_,t)=>S.ty.find t|none=>none))
 | .arr n el=>some ((λi=>match S.ty.find el with|some ti=>(match Nat.blt i n with|true=>some (i*ti.size)|false=>none)|none=>none),(λ_=>S.ty.find el))
 | _=>none
def uI (n:Nat) (zero:List Value):List Value:=match n with
 | 0=>[]
 | n+1=>zero++uI n zero
def nth (ops:List Oper) (i:Nat):Option Oper:=match ops,i with
 | [],_=>none
 | o::_,0=>some o
 | _::r,i+1=>nth r i
def lenOf (x:Slot):Option Nat:=match x with
 | .v (.slice _ n _)=>some n
 | .v (.string s)=>some s.size
 | .r _ n=>some n
 | _=>none
def iG (e:Env):Option Operand->Option Slot
 | none=>none
 | some o=>some (e.get o)
def BR (k:Nat):Option (List Value)->Option Value:=λvs=>match vs with
 | some l=>match k,l with
  | 0,v::_=>some v
  | _,_=>none
 | none=>none
def Ry (S:oD) (t:TypeId) (ps:List (Nat × Operand)) (e:Env) (K:Value->Prop):Prop :=
 match S.ty.find t with
 | some ti=>match FC S ti.d with
  | none=>False
  | some (pl,sW)=>parts e sW ps λvs=>match pL pl ti.zero vs with
   | some cs=>lJ cs λcs=>K (.agg ⟨cs⟩)
   | none=>False
 | none=>False
def appArg (e:Env) (size:Nat) (x:Slot) (h:Heap) (K:Nat->List Value->Prop):Prop :=
 match x with
 | .r t n=>match e.b t with
  | some cs=>match cs.length.beq (n*size)with
   | true=>K n cs
   | false=>False
  | none=>False
 | .v (.slice p n _)=>Ua h p (n*size) λvs=>K n vs
 | _=>False
def qS (P:Program) (S:oD) (x:Bool) (f:Value) (args:List Value) (h:Heap) (K:Slot->Bx->Heap->Prop) (E:List PanicEntry->Heap->Prop):Prop :=
 match f with
 | .func (.func g) first captured=>match Nat.ble S.lo g,Nat.blt g S.nf with
  | true,true=>lJ (first.toList++args++captured.toList) λargs=>match x with
   | true=>iF P g args h (λv h'=>K (.v v) none h') E
   | false=>Call P g args h (λv h'=>K (.v v) none h') E
  | _,_=>False
 | _=>False
def J6:Op->Bool
 | .move _ | .assign _ | .pick .. | .alloc _ | .box .. | .build .. | .buildSlice .. | .load .. | .nilCheck _ | .binOp .. | .unOp .. | .convert .. | .makeInterface .. | .makeFunc .. | .slice .. | .fieldAddr .. | .field .. | .indexAddr .. | .index .. | .extract .. | .makeSlice ..=>false
 | .call {callee:=.value _,.. }=>false
 | .call {callee:=.builtin .len,.. }=>false
 | .call {callee:=.builtin .append,.. }=>false
 | .call {callee:=.builtin .max,.. }=>false
 | .call {callee:=.builtin .min,.. }=>false
 | .call {callee:=.builtin .cap,.. }=>false
 | _=>true
def JR (l:List Nat):Option Nat->Bool
 | some d=>N7 d l
 | none=>false
def exec (P:Program) (S:oD) (F:Fs) (x:Bool) (o:Oper) (e:Env) (h:Heap) (K:Slot->Bx->Heap->Prop) (E:List PanicEntry->Heap->Prop):Prop :=
 let raw:Prop:=match x && !J6 o.op with
  | true=>False
  | false=>Raw P o e h λv h'=>K (.v v) none h'
 match o.op with
 | .move a | .assign a=>match e.get a with
  | .x=>False
  | s=>K s none h
 | .pick c a b=>match e.get c with
  | .v (.bool t)=>fG t (match e.get a with
    | .x=>False
    | s=>K s none h) (match e.get b with
    | .x=>False
    | s=>K s none h)
  | _=>False
 | .alloc t=>match S.ty.find t with
  | some ti=>newVar F t o.dst ti.zero e h K
  | none=>False
 | .box t a=>match e.get a,S.ty.find t with
  | .v v,some ti=>mq ti v λcs=>newVar F t o.dst cs e h K
  | _,_=>False
 | .build t ps=>Ry S t ps.toList e λv=>K (.v v) none h
 | .buildSlice t n ps=>match S.ty.find t with
  | some ⟨_,_,_,_,.sl el⟩=>match S.ty.find el with
   | some ti=>match (n*ti.size).ble 16777216 with
    | true=>parts e (λ_=>some ti) ps.toList λvs=>match pL (λi=>some (i*ti.size)) (uI n ti.zero) vs with
     | some cs=>newRow F el o.dst n cs e h K
     | none=>False
    | false=>False
   | none=>False
  | _=>False
 | .load t a=>match S.ty.find t with
  | some ti=>match JR F.LL o.dst with
   | true=>match e.get a with
    | .l u off=>load ti (.l u off) e h K
    | _=>False
   | false=>load ti (e.get a) e h K
  | none=>False
 | .store t a b=>match S.ty.find t,e.get b with
  | some ti,.v v=>store ti (e.get a) v e h K
  | _,_=>False
 | .nilCheck a=>match e.get a with
  | .l t off=>K (.l t off) none h
  | .v (.pointer (some a))=>K (.v (.pointer (some a))) none h
  | .v (.iface t v)=>K (.v (.iface t v)) none h
  | .v (.func (.func g) a b)=>K (.v (.func (.func g) a b)) none h
  | _=>raw
 | .binOp op t a b _=>match e.get a,e.get b with
  | .v (.int k m),.v (.int k' n)=>match sameKind k k' with
   | true=>wg op k m n (λv=>K (.v v) none h) raw
   | false=>raw
  | .v (.bool x),.v (.bool y)=>match S.ty.find t with
   | some ⟨_,_,_,_,.bas⟩=>match op with
    | .eql=>K (.v (.bool (x==y))) none h
    | .neq=>K (.v (.bool (x != y))) none h
    | _=>raw
   | _=>raw
  | _,_=>Am P o e h x K
 | .unOp op _ a=>match op,e.get a with
  | .not,.v (.bool b)=>K (.v (.bool (!b))) none h
  | .neg,.v (.int k n)=>Ar k (0-n) λn=>K (.v (.int k n)) none h
  | _,_=>raw
 | .convert s t a=>match S.ty.find s,S.ty.find t,e.get a with
  | some _,some tj,.v (.int _ n)=>match tj.d with
   | .num k=>Ar k n λn=>K (.v (.int k n)) none h
   | _=>raw
  | _,_,_=>raw
 | .makeInterface t a=>match S.ty.find t,e.get a with
  | some ti,.v v=>match ti.d with
   | .UP=>False
   | _=>K (.v (.iface t v)) none h
  | _,_=>False
 | .makeFunc f fs cs=>aW e fs.toList λfs=>aW e cs.toList λcs=>K (.v (.func f ⟨fs⟩ ⟨cs⟩)) none h
 | .slice t a lo hi mx=>match S.ty.find t,mx with
  | some ⟨_,_,_,_,.sl el⟩,none=>match S.ty.find el,e.get a with
   | some ti,.v (.slice p n cap)=>pO ti.size p n cap (iG e lo) (iG e hi) λv=>K (.v v) none h
   | _,_=>raw
  | _,_=>raw
 | .fieldAddr t a i=>match S.ty.find t with
  | some ⟨_,_,_,_,.str fs⟩=>match fs[i]? with
   | some (k,_)=>match e.get a with
    | .l u off=>K (.l u (off+k)) none h
    | .v (.pointer (some ⟨b,off,none⟩))=>K (.v (.pointer (some ⟨b,off+k,none⟩))) none h
    | _=>False
   | none=>False
  | _=>False
 | .field t a i=>match S.ty.find t with
  | some ⟨_,_,_,_,.str fs⟩=>match fs[i]? with
   | some (k,u)=>match e.get a,S.ty.find u with
    | .v (.agg cs),some ti=>match take ti.size (drop k cs.toList)with
     | some vs=>match ti.agg with
      | true=>lJ vs λvs=>K (.v (.agg ⟨vs⟩)) none h
      | false=>match vs with
       | [v]=>K (.v v) none h
       | _=>False
     | none=>False
    | _,_=>False
   | none=>False
  | _=>False
 | .indexAddr t a i=>match e.get i with
  | .v (.int _ i)=>match S.ty.find t with
   | some ⟨_,_,_,_,.sl el⟩=>match S.ty.find el,e.get a with
    | some ti,.v (.slice p n _)=>Ob (0<=i/\i < n) (Ptr p λb off=>K (.v (.pointer (some ⟨b,off+i.toNat*ti.size,none⟩))) none h)
    | some ti,.r u n=>Ob (0<=i/\i < n) (K (.l u (i.toNat*ti.size)) none h)
    | _,_=>False
   | some ⟨_,_,_,_,.arr n el⟩=>match S.ty.find el,e.get a with
    | some ti,.v (.pointer (some ⟨b,off,none⟩))=>Ob (0<=i/\i < n) (K (.v (.pointer (some ⟨b,off+i.toNat*ti.size,none⟩))) none h)
    | some ti,.l u off=>Ob (0<=i/\i < n) (K (.l u (off+i.toNat*ti.size)) none h)
    | _,_=>False
   | _=>False
  | _=>False
 | .index t a i=>match e.get a,e.get i with
  | .v (.string s),.v (.int _ i)=>match S.ty.find t with
   | some ⟨_,_,_,_,.UO⟩=>Ob (0<=i/\i < s.size) (K (.v (.int .u8 ((s.data.toList.getD i.toNat 0).toNat:Nat))) none h)
   | _=>raw
  | _,_=>raw
 | .extract a i=>match e.get a with
  | .v (.tuple vs)=>match BR 0 (take 1 (drop i vs.toList))with
   | some v=>K (.v v) none h
   | none=>False
  | _=>False
 | .makeSlice t n c=>match S.ty.find t with
  | some ⟨_,_,_,_,.sl el⟩=>match S.ty.find el,e.get n,e.get c with
   | some ti,.v (.int .i64 n),.v (.int .i64 c)=>Ob (n=c/\0<=n/\n*ti.bytes<=2 ^ 44/\n<=2 ^ 44) (JQ h (List.replicate n.toNat ti.zero).flatten el λb h'=>K (.v (.slice (some ⟨b,0,none⟩) n.toNat n.toNat)) none h')
   | _,_,_=>False
  | _=>False
 | .call {callee:=.value f,args:=args,.. }=>match e.get f with
  | .v fv=>aW e args.toList λargs=>qS P S (x && !Rx F f) fv args h K E
  | _=>False
 | .call {callee:=.builtin .len,args:=args,argTypes:=ts}=>match args.toList with
  | [a]=>match e.get a with
   | .v (.slice _ n _)=>match (ts.toList.head?).bind S.ty.find with
    | some ⟨_,_,_,_,.sl _⟩=>K (.v (.int .i64 n)) none h
    | _=>False
   | .r _ n=>match (ts.toList.head?).bind S.ty.find with
    | some ⟨_,_,_,_,.sl _⟩=>K (.v (.int .i64 n)) none h
    | _=>False
   | _=>raw
  | _=>False
 | .call {callee:=.builtin .max,args:=args,.. }=>match args.toList with
  | [a,b]=>match e.get a,e.get b with
   | .v (.int k x),.v (.int k' y)=>match sameKind k k' with
    | true=>K (.v (.int k (mx x y))) none h
    | false=>raw
   | _,_=>raw
  | _=>raw
 | .call {callee:=.builtin .min,args:=args,.. }=>match args.toList with
  | [a,b]=>match e.get a,e.get b with
   | .v (.int k x),.v (.int k' y)=>match sameKind k k' with
    | true=>K (.v (.int k (mn x y))) none h
    | false=>raw
   | _,_=>raw
  | _=>raw
 | .call {callee:=.builtin .cap,args:=args,argTypes:=ts}=>match args.toList with
  | [a]=>match e.get a with
   | .v (.slice _ _ c)=>match (ts.toList.head?).bind S.ty.find with
    | some ⟨_,_,_,_,.sl _⟩=>K (.v (.int .i64 c)) none h
    | _=>False
   | _=>raw
  | _=>False
 | .call {callee:=.builtin .append,args:=args,argTypes:=ts}=>match args.toList,ts.toList with
  | [a,y],[t,u]=>match S.ty.find t,S.ty.find u with
   | some ⟨_,_,_,_,.sl el⟩,some ⟨_,_,_,_,.sl _⟩=>match S.ty.find el with
    | some ti=>match e.get a with
     | .v (.slice p n cap)=>appArg e ti.size (e.get y) h λm vs=>App ti.bytes ti.size ti.zero el h p n cap m vs λv h'=>K (.v v) none h'
     | _=>False
    | none=>False
   | _,_=>raw
  | _,_=>False
 | .panic a=>match e.get a with
  | .v (.iface t v)=>E [{v:=.iface t v,recovered:=false}] h
  | _=>False
 | _=>raw
def guardOf (ops:List Oper) (g:Option (Nat × Bool)):Option (Option Nat × Bool):=match g with
 | none=>none
 | some (j,w)=>match nth ops j with
  | some o=>some (o.dst,w)
  | none=>some (none,w)
def uJ (P:Program) (S:oD) (F:Fs) (x:Bool) (all:List Oper) (o:Oper) (e:Env) (h:Heap) (K:Env->Heap->Prop) (E:List PanicEntry->Heap->Prop):Prop :=
 let run (e:Env):Prop:=exec P S F x o e h (λs bx h'=>K (e.put o.dst s bx) h') E
 let skip (e:Env):Prop:=K (e.put o.dst (.v undef) none) h
 match guardOf all o.guard with
 | none=>run e
 | some (none,_)=>skip e
 | some (some d,w)=>match e.s d with
  | .v (.bool b)=>fG b
   (match w with
    | true=>run (e.put (some d) (.v (.bool true)) none)
    | false=>skip (e.put (some d) (.v (.bool true)) none))
   (match w with
    | true=>skip (e.put (some d) (.v (.bool false)) none)
    | false=>run (e.put (some d) (.v (.bool false)) none))
  | .v (.tuple _)=>skip e
  | _=>False
def N8 (P:Program) (S:oD) (F:Fs) (x:Bool) (all:List Oper) (K:Env->Heap->Prop) (E:List PanicEntry->Heap->Prop):List Nat->Env->Heap->Prop
 | [],e,h=>K e h
 | i::r,e,h=>match nth all i with
  | some o=>uJ P S F x all o e h (λe' h'=>N8 P S F x all K E r e' h') E
  | none=>False
def Dv (P:Program) (S:oD) (F:Fs) (all:List Oper) (K:Env->Heap->Prop) (E:List PanicEntry->Heap->Prop):List Oper->Env->Heap->Prop
 | [],e,h=>K e h
 | o::r,e,h=>uJ P S F false all o e h (λe' h'=>Dv P S F all K E r e' h') E
def FD (id:Nat):List (Nat × List Nat)->Option (List Nat)
 | []=>none
 | (i,p)::r=>match Nat.beq id i with
  | true=>some p
  | false=>FD id r
def FE (id:Nat):List (Nat × PT)->Option PT
 | []=>none
 | (i,p)::r=>match Nat.beq id i with
  | true=>some p
  | false=>FE id r
def uK (P:Program) (S:oD) (F:Fs) (all:List Oper) (K:Env->Heap->Prop) (E:List PanicEntry->Heap->Prop):PT->Env->Heap->Prop
 | .nil,e,h=>K e h
 | .eO,_,_=>True
 | .one i r,e,h=>match nth all i with
  | some o=>uJ P S F true all o e h (λe' h'=>uK P S F all K E r e' h') E
  | none=>False
 | .alt i t r,e,h=>(match nth all i with
  | some o=>uJ P S F true all o e h (λe' h'=>uK P S F all K E t e' h') E
  | none=>False)/\uK P S F all K E r e h
def drawn (P:Program) (S:oD) (F:Fs) (id:Nat) (all:List Oper) (K:Env->Heap->Prop) (E:List PanicEntry->Heap->Prop) (e:Env) (h:Heap):Prop :=
 match FD id F.cq with
 | some p=>N8 P S F true all K E p e h
 | none=>match FE id F.trees with
  | some t=>uK P S F all K E t e h
  | none=>False
def den (P:Program) (S:oD) (F:Fs):Code->(Ex->Env->Heap->Prop)->Env->Heap->Prop
 | .skip,K,e,h=>K .normal e h
 | .label _,K,e,h=>K .normal e h
 | .region id ops dr,K,e,h=>match dr with
  | false=>Dv P S F ops.toList (K .normal) (λc h'=>K (.lY c) e h') ops.toList e h
  | true=>drawn P S F id ops.toList (K .normal) (λc h'=>K (.lY c) e h') e h
 | .seq a b,K,e,h=>den P S F a (λx e' h'=>match x with | .normal=>den P S F b K e' h' | .exit i=>K (.exit i) e' h' | .ret=>K .ret e' h' | .lY c=>K (.lY c) e' h') e h
 | .cond c a b,K,e,h=>match e.get c with
  | .v (.bool t)=>fG t (den P S F a K e h) (den P S F b K e h)
  | _=>False
 | .block id c,K,e,h=>den P S F c (λx e' h'=>match x with
  | .normal=>K .normal e' h'
  | .exit i=>match Nat.beq i id with
   | true=>K .normal e' h'
   | false=>K (.exit i) e' h'
  | .ret=>K .ret e' h'
  | .lY c=>K (.lY c) e' h') e h
 | .loop c,K,e,h=>Lp (λK e h=>den P S F c K e h) K e h
 | .exit i,K,e,h=>K (.exit i) e h
 | .ret,K,e,h=>K .ret e h
 | .scope c,K,e,h=>den P S F c K e h
 | _,_,_,_=>False
set_option linter.unusedSimpArgs false
set_option linter.unusedVariables false
def nJ:TypeDesc->TD
 | .bool=>.bas
 | .int k=>.num k
 | .string=>.UO
 | .struct fs=>.str (fs.toList.map λf=>(f.offset,f.type))
 | .array n e=>.arr n e
 | .slice e=>.sl e
 | .pointer e=>.ptr e
 | .interface _=>.UP
 | _=>.dU
def Rz:TypeDesc->Bool
 | .struct _=>true
 | .array _ _=>true
 | _=>false
def RA (P:Program) (t:TypeId):Option TI :=
 match P.info? t,P.underlying t with
 | some i,some d=>match i.zero with
  | some z=>some ⟨i.size,i.bytes,z.cells.toList,Rz d,nJ d⟩
  | none=>none
 | _,_=>none
def Tree.list {α:Type}:Tree α->List (Nat × α)
 | .leaf=>[]
 | .node l k v r=>l.list++(k,v)::r.list
theorem Tree.mQ {α:Type} (i:Nat) (v:α):∀ t:Tree α,t.find i=some v->(i,v)∈t.list
 | .leaf,h=>by simp[Tree.find]at h
 | .node l k u r,h=>by
  unfold Tree.find at h;split at h
  ·rename_i hk;have:=Nat.eq_of_beq_eq_true hk;simp only[Option.some.injEq]at h;subst h;subst this;simp[Tree.list]
  ·split at h
   ·have:=Tree.mQ i v l h;simp[Tree.list,this]
   ·have:=Tree.mQ i v r h;simp[Tree.list,this]
structure dQ (P:Program) (S:oD):Prop where
 ty:∀ t ti,S.ty.find t=some ti->RA P t=some ti
 fn:∀ g,S.lo<=g->g < S.nf->∃ fn,P.funcs[g]? = some fn/\fn.body.isNone=false/\(fn.name == "runtime.NumGoroutine")=false
 mix:P.follows .mixedOrders=true
 one:∀ t ti,S.ty.find t=some ti->ti.agg=false->ti.size=1
 zero:∀ t ti,S.ty.find t=some ti->ti.zero.length=ti.size
 dw:∀ t ti fs,S.ty.find t=some ti->ti.d=.str fs->∀ f∈fs,∃ tj,S.ty.find f.2=some tj/\tj.size≠0
 elems:∀ t ti k el,S.ty.find t=some ti->ti.d=.arr k el->(S.ty.find el).isSome
def UR (S:oD) (p:TypeId × TI):Bool:=(p.2.agg||p.2.size==1)&&p.2.zero.length==p.2.size&&match p.2.d with
 | .str fs=>fs.all λf=>match S.ty.find f.2 with
  | some tj=>tj.size != 0
  | none=>false
 | .arr _ el=>(S.ty.find el).isSome
 | _=>true
def fnB (P:Program) (g:Nat):Bool:=match P.funcs[g]? with
 | some fn=>!fn.body.isNone && !(fn.name == "runtime.NumGoroutine")
 | none=>false
theorem dQ.mk' {P:Program} {S:oD} (ht:S.ty.list.map (λp=>RA P p.1)=S.ty.list.map (λp=>some p.2))
  (hf:(List.range' S.lo (S.nf-S.lo)).all (fnB P)=true) (hm:P.follows .mixedOrders=true)
  (h1:S.ty.list.all (UR S)=true):dQ P S where
 ty t ti h:=by
  have hm:=Tree.mQ t ti _ h;have:=(List.map_inj_left.1 ht) _ hm;exact this
 fn g h1 h2:=by
  have:=List.all_eq_true.1 hf g (by simp[List.mem_range'_1];omega);unfold fnB at this;split at this
  ·rename_i fn US;simp at this;exact⟨fn,US,by simpa using this.1,by simpa using this.2⟩
  ·simp at this
 mix:=hm
 one t ti h ha:=by
  have hm:=Tree.mQ t ti _ h;have:=List.all_eq_true.1 h1 _ hm;simp only[UR,Bool.and_eq_true]at this;simpa [ha]using this.1.1
 zero t ti h:=by
  have hm:=Tree.mQ t ti _ h;have:=List.all_eq_true.1 h1 _ hm;simp only[UR,Bool.and_eq_true]at this;simpa using this.1.2
 dw t ti fs h hd f hf:=by
  have hm:=Tree.mQ t ti _ h;have:=List.all_eq_true.1 h1 _ hm;simp only[UR,Bool.and_eq_true,hd]at this;have:=List.all_eq_true.1 this.2 f hf;split at this
  ·rename_i tj Nu;exact⟨tj,Nu,by simpa using this⟩
  ·cases this
 elems t ti k el h hd:=by
  have hm:=Tree.mQ t ti _ h;have:=List.all_eq_true.1 h1 _ hm;simp only[UR,Bool.and_eq_true,hd]at this;exact this.2
theorem dQ.info {P:Program} {S:oD} (hS:dQ P S) {t:TypeId} {ti:TI} (h:S.ty.find t=some ti) :
  ∃ i z d,P.info? t=some i/\i.zero=some z/\P.underlying t=some d/\i.size=ti.size/\i.bytes=ti.bytes/\z.cells.toList=ti.zero/\Rz d=ti.agg/\nJ d=ti.d:=by
 have h:=hS.ty t ti h;unfold RA at h;split at h
 ·rename_i i d hi hd;split at h
  ·rename_i z hz;simp only[Option.some.injEq]at h;subst h;exact⟨i,z,d,hi,hz,hd,rfl,rfl,rfl,rfl,rfl⟩
  ·cases h
 ·cases h
section
variable {P:Program} {S:oD} (hS:dQ P S)
include hS
theorem run_sizeOf {t:TypeId} {ti:TI} (h:S.ty.find t=some ti) (w:World):(sizeOf t).run P w=.ok ti.size w:=by
 obtain⟨i,z,d,hi,hz,hd,hs,hb,hc,ha,ht⟩:=hS.info h;simp[sizeOf,typeInfo,hi,hs]
theorem kZ {t:TypeId} {ti:TI} (h:S.ty.find t=some ti) (w:World):∃ z,(zeroValue t).run P w=.ok z w/\z.cells.toList=ti.zero:=by
 obtain⟨i,z,d,hi,hz,hd,hs,hb,hc,ha,ht⟩:=hS.info h;exact⟨z,by simp[zeroValue,typeInfo,hi,hz],hc⟩
theorem dB {t:TypeId} {ti:TI} (h:S.ty.find t=some ti) (w:World):∃ d,(underlying t).run P w=.ok d w/\Rz d=ti.agg/\nJ d=ti.d:=by
 obtain⟨i,z,d,hi,hz,hd,hs,hb,hc,ha,ht⟩:=hS.info h;exact⟨d,by simp[underlying,hd],ha,ht⟩
theorem sv {t:TypeId} {ti:TI} (h:S.ty.find t=some ti) (w:World):(isAgg t).run P w=.ok ti.agg w:=by
 obtain⟨d,hd,ha,_⟩:=dB hS h w;simp only[isAgg,Sem.run_bind,hd,Result.andThen_ok];rw[<-ha];cases d<;>rfl
theorem mG {t:TypeId} {ti:TI} (h:S.ty.find t=some ti) (w:World):∃ i,(typeInfo t).run P w=.ok i w/\i.bytes=ti.bytes/\i.size=ti.size:=by
 obtain⟨i,z,d,hi,hz,hd,hs,hb,hc,ha,ht⟩:=hS.info h;exact⟨i,by simp[typeInfo,hi],hb,hs⟩
end
def mR (β:Nat->Nat) (e:Env):Slot->Value->Prop
 | .v x,v=>v=x
 | .l t off,v=>v=.pointer (some ⟨β t,off,none⟩)/\(e.b t).isSome
 | .r t n,v=>v=.slice (some ⟨β t,0,none⟩) n n/\(e.b t).isSome
 | .x,_=>True
structure Rel (D:List Deferred) (n:Nat) (h0:Heap) (w0:World) (β:Nat->Nat) (e:Env) (h:Heap) (a:Act) (w:World):Prop where
 size:a.tmps.size=n
 yx:a.defers=D
 slot:∀ t,mR β e (e.s t) (a.tmps.getD t undef)
 box:∀ t cs,e.b t=some cs->(∃ ty,w.heap[β t]? = some (.cells cs.toArray ty (0,0)))/\h (β t)=none/\w0.heap.size<=β t
 inj:∀ t u,(e.b t).isSome->(e.b u).isSome->β t=β u->t=u
 mv:dn h0 w0 h w
theorem Hl {H:Array Obj} {o:Obj} (ho:∀ cs t z,o=Obj.cells cs t z->z=(0,0)) {b:Nat} {cs:Array Value} {t:TypeId} {z:Nat × Nat} (hb:(H.push o)[b]? = some (Obj.cells cs t z)):z=(0,0)\/H[b]? = some (Obj.cells cs t z):=by
 rw[Array.getElem?_push]at hb;split at hb
 ·simp only[Option.some.injEq]at hb;exact .inl (ho _ _ _ hb)
 ·exact .inr hb
theorem Ho {H:Array Obj} {k:Nat} {o:Obj} (ho:∀ cs t z,o=Obj.cells cs t z->z=(0,0)) {b:Nat} {cs:Array Value} {t:TypeId} {z:Nat × Nat} (hb:(H.setIfInBounds k o)[b]? = some (Obj.cells cs t z)):z=(0,0)\/H[b]? = some (Obj.cells cs t z):=by
 rw[Array.getElem?_setIfInBounds]at hb;split at hb
 ·split at hb
  ·simp only[Option.some.injEq]at hb;exact .inl (ho _ _ _ hb)
  ·cases hb
 ·exact .inr hb
theorem dn.refl {h:Heap} {w:World} (hv:∀ b o,h b=some o->w.heap[b]? = some o):dn h w h w :=
 ⟨hv,λ_ _ _=>rfl,λ_ h=>.inl h,Nat.le_refl _,λ_ _ _ _ h=>.inr h,rfl,rfl,rfl⟩
theorem dn.trans {h0 h1 h2:Heap} {w0 w1 w2:World} (a:dn h0 w0 h1 w1) (b:dn h1 w1 h2 w2):dn h0 w0 h2 w2 where
 view:=b.view
 aJ x hx hn:=by
  have h1n:h1 x=none:=by
   cases h:h1 x with
   | none=>rfl
   | some o =>
    rcases a.x9 x (by simp[h])with h'|h'
    ·exact absurd hn h'
    ·omega
  rw[b.aJ x (by have:=a.size;omega) h1n,a.aJ x hx hn]
 x9 x hx:=by
  rcases b.x9 x hx with h'|h'
  ·exact a.x9 x h'
  ·exact .inr (by have:=a.size;omega)
 size:=Nat.le_trans a.size b.size
 fz x cs t z hx:=(b.fz x cs t z hx).elim .inl (a.fz x cs t z)
 out:=⟨b.out.1.trans a.out.1,b.out.2.1.trans a.out.2.1,b.out.2.2.trans a.out.2.2⟩
theorem eV {w:World} {b:Nat} {o:Obj} (h:w.heap[b]? = some o):b < w.heap.size:=(Array.getElem?_eq_some_iff.1 h).1
variable {D:List Deferred} {n:Nat} {h0:Heap} {w0:World} {β:Nat->Nat} {e:Env} {h:Heap} {a:Act} {w:World}
theorem Rel.fresh (r:Rel D n h0 w0 β e h a w):h w.heap.size=none:=by
 cases hh:h w.heap.size with
 | none=>rfl
 | some o=>have:=eV (r.mv.view _ _ hh);omega
theorem Rel.eval (r:Rel D n h0 w0 β e h a w) {x:Operand} {v:Value} (hx:e.get x=.v v):a.eval x=v:=by
 cases x with
 | tmp t=>have:=r.slot t;simp only[Env.get]at hx;rw[hx]at this;exact this
 | const c=>simp only[Env.get,Slot.v.injEq]at hx;simp[Act.eval,hx]
 | global g=>simp only[Env.get,Slot.v.injEq]at hx;simp[Act.eval,hx]
 | func f=>simp only[Env.get,Slot.v.injEq]at hx;simp[Act.eval,hx]
theorem Rel.nM (r:Rel D n h0 w0 β e h a w) (x:Operand):mR β e (e.get x) (a.eval x):=by
 cases x with
 | tmp t=>exact r.slot t
 | const c=>rfl
 | global g=>rfl
 | func f=>rfl
theorem yz (a:Act) (d:Option Nat) (v:Value) (t:Nat) (hd:∀ d',d=some d'->d' < a.tmps.size) :
  (a.put d v).tmps.getD t undef=match d with|none=>a.tmps.getD t undef|some d'=>if t=d' then v else a.tmps.getD t undef:=by
 cases d with
 | none=>rfl
 | some d' =>
  have h:=hd d' rfl;simp only[Act.put,Array.getD_eq_getD_getElem?,Array.getElem?_setIfInBounds];by_cases e:t=d'
  ·subst e;simp[h]
  ·have e':¬d'=t:=λh=>e h.symm;simp[e,e']
theorem yA (a:Act) (d:Option Nat) (v:Value):(a.put d v).tmps.size=a.tmps.size:=by cases d<;>simp[Act.put]
theorem put_defers (a:Act) (d:Option Nat) (v:Value):(a.put d v).defers=a.defers:=by cases d<;>rfl
theorem Rel.put (r:Rel D n h0 w0 β e h a w) {h':Heap} {w':World} (m:dn h w h' w') (d:Option Nat) (hd:∀ d',d=some d'->d' < n) {s:Slot} {v:Value} (hs:mR β e s v) :
  Rel D n h0 w0 β (e.put d s none) h' (a.put d v) w' where
 size:=by rw[yA,r.size]
 yx:=by rw[put_defers,r.yx]
 slot t:=by
  rw[yz a d v t (by rw[r.size];exact hd)];cases d with
  | none=>exact r.slot t
  | some d' =>
   simp only[Env.put];by_cases hh:t=d'
   ·simp only[hh,if_true];cases s<;>exact hs
   ·simp only[hh,if_false];have:=r.slot t;revert this;cases e.s t<;>exact id
 box t cs hb:=by
  obtain⟨⟨ty,h1⟩,h2,h3⟩:=r.box t cs hb;have gE:=eV h1;refine⟨⟨ty,by rw[m.aJ _ gE h2,h1]⟩,?_,h3⟩;cases hh:h' (β t)with
  | none=>rfl
  | some o =>
   rcases m.x9 (β t) (by simp[hh])with h'|h'
   ·exact absurd h2 h'
   ·omega
 inj:=r.inj
 mv:=r.mv.trans m
theorem Rel.RB (r:Rel D n h0 w0 β e h a w) (d:Nat) (hd:d < n) (hb:e.b d=none) (cs:List Value) (ty:TypeId) {s:Slot} {v:Value}
  (hs:(s=.l d 0/\v=.pointer (some ⟨w.heap.size,0,none⟩))\/(∃ k,s=.r d k/\v=.slice (some ⟨w.heap.size,0,none⟩) k k)) :
  Rel D n h0 w0 (λt=>if t=d then w.heap.size else β t) (e.put (some d) s (some (d,cs))) h (a.put (some d) v) {w with heap:=w.heap.push (.cells cs.toArray ty (0,0))} where
 size:=by rw[yA,r.size]
 yx:=by rw[put_defers,r.yx]
 slot t:=by
  rw[yz a (some d) v t (by rintro _ ⟨⟩;rw[r.size];exact hd)];simp only[Env.put];by_cases hh:t=d
  ·simp only[hh,if_true];rcases hs with ⟨rfl,rfl⟩|⟨k,rfl,rfl⟩<;>simp[mR]
  ·simp only[hh,if_false];have:=r.slot t;revert this
   cases eB:e.s t with
   | v x=>exact id
   | x=>exact id
   | l u off =>
    intro ⟨h1,h2⟩;have hu:u≠d:=λhu=>by rw[hu,hb]at h2;cases h2
    simp[mR,hu,h1,h2]
   | r u k =>
    intro ⟨h1,h2⟩;have hu:u≠d:=λhu=>by rw[hu,hb]at h2;cases h2
    simp[mR,hu,h1,h2]
 box t jU bA:=by
  simp only[Env.put]at bA;by_cases hh:t=d
  ·simp only[hh,if_true,Option.some.injEq]at bA ⊢;subst bA;exact⟨⟨ty,by simp⟩,r.fresh,r.mv.size⟩
  ·simp only[hh,if_false]at bA ⊢;obtain⟨⟨RC,h1⟩,h2,h3⟩:=r.box t jU bA;have gE:=eV h1;exact⟨⟨RC,by rw[Array.getElem?_push_lt gE];rw[Array.getElem?_eq_getElem gE]at h1;exact h1⟩,h2,h3⟩
 inj t u ht hu Ix:=by
  simp only[Env.put]at ht hu;by_cases h1:t=d
  ·by_cases h2:u=d
   ·rw[h1,h2]
   ·simp only[h1,if_true,h2,if_false]at Ix hu;obtain⟨jU,hc⟩:=Option.isSome_iff_exists.1 hu;obtain⟨⟨RC,h3⟩,_,_⟩:=r.box u jU hc;have:=eV h3;omega
  ·by_cases h2:u=d
   ·simp only[h1,if_false,h2,if_true]at Ix ht;obtain⟨jU,hc⟩:=Option.isSome_iff_exists.1 ht;obtain⟨⟨RC,h3⟩,_,_⟩:=r.box t jU hc;have:=eV h3;omega
   ·simp only[h1,if_false,h2,if_false]at Ix ht hu;exact r.inj t u ht hu Ix
 mv:={
  view:=λb o hb=>by
   have h1:=r.mv.view b o hb;have gE:=eV h1;show(w.heap.push _)[b]? = some o;rw[Array.getElem?_push_lt gE];rw[Array.getElem?_eq_getElem gE]at h1;exact h1
  aJ:=λb hb hn=>by
   have h1:=r.mv.aJ b hb hn;have gE:b < w.heap.size:=by have:=r.mv.size;omega
   show(w.heap.push _)[b]? = _;rw[Array.getElem?_push_lt gE,<-h1,Array.getElem?_eq_getElem gE]
  x9:=r.mv.x9
  size:=by have:=r.mv.size;show w0.heap.size<=(w.heap.push _).size;simp;omega
  fz:=λb jU t' z hb=>(Hl (λ_ _ _ h=>by cases h;rfl) hb).elim .inl (r.mv.fz b jU t' z)
  out:=r.mv.out}
theorem dn.push (hv:∀ b o,h b=some o->w.heap[b]? = some o) (o:Obj) (ho:∀ cs t z,o=Obj.cells cs t z->z=(0,0):=by intro _ _ _ h;cases h<;>rfl):dn h w (h.set w.heap.size o) {w with heap:=w.heap.push o} where
 view b o' hb:=by
  show(w.heap.push o)[b]? = some o';simp only[Heap.set]at hb;split at hb
  ·rename_i hh;subst hh;simp only[Option.some.injEq]at hb;simp[hb]
  ·have h1:=hv b o' hb;have gE:=eV h1;rw[Array.getElem?_push_lt gE];rw[Array.getElem?_eq_getElem gE]at h1;exact h1
 aJ b hb _:=by
  show(w.heap.push o)[b]? = _;rw[Array.getElem?_push_lt hb,Array.getElem?_eq_getElem hb]
 x9 b hb:=by
  simp only[Heap.set]at hb;split at hb
  ·exact .inr (by omega)
  ·exact .inl hb
 size:=by show w.heap.size<=(w.heap.push o).size;simp
 fz _ _ _ _ hb:=Hl ho hb
 out:=⟨rfl,rfl,rfl⟩
theorem dn.J7 (hv:∀ b o,h b=some o->w.heap[b]? = some o) {b:Nat} {o:Obj} (hb:h b=some o) (o':Obj) {w':World} (hw:w'.heap=w.heap.setIfInBounds b o') (ho:w'.os=w.os/\w'.tape=w.tape/\w'.output=w.output) (hz:∀ cs t z,o'=Obj.cells cs t z->z=(0,0):=by intro _ _ _ h;cases h<;>rfl):dn h w (h.set b o') w' where
 view c x hc:=by
  rw[hw,Array.getElem?_setIfInBounds];simp only[Heap.set]at hc;have gE:=eV (hv b o hb);split at hc
  ·rename_i hh;subst hh;simp only[Option.some.injEq]at hc;simp[gE,hc]
  ·rename_i hh;rw[if_neg (λh=>hh h.symm)];exact hv c x hc
 aJ c hc hn:=by
  rw[hw,Array.getElem?_setIfInBounds];rw[if_neg];intro hh;subst hh;rw[hb]at hn;cases hn
 x9 c hc:=by
  simp only[Heap.set]at hc;split at hc
  ·rename_i hh;subst hh;exact .inl (by simp[hb])
  ·exact .inl hc
 size:=by rw[hw];simp
 fz _ _ _ _ hb:=by rw[hw]at hb;exact Ho hz hb
 out:=ho
def Sound (D:List Deferred) (P:Program) (n:Nat) (h0:Heap) (w0:World) (o:Oper) (a:Act) (w:World) (e:Env) (K:Slot->Bx->Heap->Prop) (E:List PanicEntry->Heap->Prop):Prop :=
 ∀(next:Act->World->Prop) (Q:Exit->Act->World->Prop),
  (∀ s bx h' sw a' w',K s bx h'->Rel D n h0 w0 sw (e.put o.dst s bx) h' a' w'->next a' w') ->
  (∀ c h' a' w',E c h'->dn h0 w0 h' w'->a'.defers=D->Q (.panic c) a' w')->o.wp P a w next Q
variable {P:Program} {S:oD} {o:Oper} {K:Slot->Bx->Heap->Prop} {E:List PanicEntry->Heap->Prop}
theorem jO (r:Rel D n h0 w0 β e h a w) (hd:∀ d',o.dst=some d'->d' < n) {v:Value} {w':World} (hr:(execOp a.eval o).run P w=.ok (.value v) w')
  {h':Heap} (m:dn h w h' w') {s:Slot} (hs:mR β e s v) (hK:K s none h'):Sound D P n h0 w0 o a w e K E:=by
 intro next Q h1 h2;unfold Oper.wp;rw[hr];exact h1 s none h' β _ w' hK (r.put m o.dst hd hs)
theorem yB (r:Rel D n h0 w0 β e h a w) (hd:∀ d',o.dst=some d'->d' < n) {w':World} (hr:(execOp a.eval o).run P w=.ok .skip w')
  {h':Heap} (m:dn h w h' w') (hK:K (.v undef) none h'):Sound D P n h0 w0 o a w e K E:=by
 intro next Q h1 h2;unfold Oper.wp;rw[hr];exact h1 (.v undef) none h' β _ w' hK (r.put m o.dst hd rfl)
theorem jH (r:Rel D n h0 w0 β e h a w) (hd:∀ d',o.dst=some d'->d' < n) {v:Value} (hr:(execOp a.eval o).run P w=.ok (.value v) w)
  {s:Slot} (hs:mR β e s v) (hK:K s none h):Sound D P n h0 w0 o a w e K E :=
 jO r hd hr (dn.refl r.mv.view) hs hK
theorem bT (r:Rel D n h0 w0 β e h a w) (hd:∀ d',o.dst=some d'->d' < n) {v:Value} (hr:(execOp a.eval o).run P w=.ok (.value v) w)
  (hK:K (.v v) none h):Sound D P n h0 w0 o a w e K E :=
 jO r hd hr (dn.refl r.mv.view) (s:=.v v) rfl hK
theorem AA (r:Rel D n h0 w0 β e h a w) (hd:∀ d',o.dst=some d'->d' < n) {d:Nat} (UT:o.dst=some d) (hb:e.b d=none) {cs:List Value} {ty:TypeId} {v:Value}
  (hr:(execOp a.eval o).run P w=.ok (.value v) {w with heap:=w.heap.push (.cells cs.toArray ty (0,0))}) {s:Slot}
  (hs:(s=.l d 0/\v=.pointer (some ⟨w.heap.size,0,none⟩))\/(∃ k,s=.r d k/\v=.slice (some ⟨w.heap.size,0,none⟩) k k)) (hK:K s (some (d,cs)) h):Sound D P n h0 w0 o a w e K E:=by
 intro next Q h1 h2;unfold Oper.wp;rw[hr];have:=r.RB d (hd d UT) hb cs ty hs;rw[<-UT]at this;exact h1 s _ h _ _ _ hK this
theorem pP {F:Fs} {d:Option Nat} {d':Nat} (h:isLocal F d=some d'):d=some d':=by
 unfold isLocal at h;split at h
 ·split at h
  ·simpa using h
  ·cases h
 ·cases h
theorem bL (l:List Value) (K:List Value->Prop):lJ l K↔K l:=by
 induction l generalizing K with
 | nil=>exact Iff.rfl
 | cons a r ih=>exact ih (λr'=>K (a::r'))
theorem uL (r:Rel D n h0 w0 β e h a w) (hd:∀ d',o.dst=some d'->d' < n) {F:Fs} {t:TypeId} {cs:List Value}
  (hr:(execOp a.eval o).run P w=.ok (.value (.pointer (some ⟨w.heap.size,0,none⟩))) {w with heap:=w.heap.push (.cells cs.toArray t)})
  (hx:newVar F t o.dst cs e h K):Sound D P n h0 w0 o a w e K E:=by
 unfold newVar at hx;split at hx
 ·rename_i d hl;have hl:=pP hl;split at hx
  ·rename_i hb;rw[bL]at hx;exact AA r hd hl hb (ty:=t) hr (.inl ⟨rfl,rfl⟩) hx
  ·exact hx.elim
 ·rw[pK]at hx;unfold BO at hx;exact jO r hd hr (dn.push r.mv.view _) (s:=.v (.pointer (some ⟨w.heap.size,0,none⟩))) rfl (hx _ r.fresh)
theorem BS (r:Rel D n h0 w0 β e h a w) (hd:∀ d',o.dst=some d'->d' < n) {F:Fs} {t:TypeId} {cs:List Value} {k:Nat}
  (hr:(execOp a.eval o).run P w=.ok (.value (.slice (some ⟨w.heap.size,0,none⟩) k k)) {w with heap:=w.heap.push (.cells cs.toArray t)})
  (hx:newRow F t o.dst k cs e h K):Sound D P n h0 w0 o a w e K E:=by
 unfold newRow at hx;split at hx
 ·rename_i d hl;have hl:=pP hl;split at hx
  ·rename_i hb;rw[bL]at hx;exact AA r hd hl hb (ty:=t) hr (.inr ⟨k,rfl,rfl⟩) hx
  ·exact hx.elim
 ·rw[pK]at hx;unfold BO at hx;exact jO r hd hr (dn.push r.mv.view _) (s:=.v (.slice (some ⟨w.heap.size,0,none⟩) k k)) rfl (hx _ r.fresh)
theorem sx (hv:∀ b o,h b=some o->w.heap[b]? = some o) {b off:Nat} {v:Value} (hr:rd h b off=some v):w.cell? ⟨b,off,none⟩=some v:=by
 unfold rd at hr;split at hr
 ·rename_i c t f hb;simp[World.cell?,hv _ _ hb,hr]
 ·cases hr
theorem mw (b off i:Nat):(⟨b,off,none⟩:Addr).add i=⟨b,off+i,none⟩:=by
 unfold Addr.add;split
 ·rename_i hh;simp[hh]
 ·rfl
theorem run_loadCells (vs:List Value):∀(b off i:Nat) (acc:Array Value),(∀ j v,vs[j]? = some v->w.cell? ⟨b,off+(i+j),none⟩=some v) ->
  (loadCellsFrom ⟨b,off,none⟩ i vs.length acc).run P w=.ok (acc++vs.toArray) w:=by
 induction vs with
 | nil=>intro b off i acc _;simp[loadCellsFrom]
 | cons v vs ih =>
  intro b off i acc hc;have h1:=hc 0 v rfl;simp only[List.length_cons,loadCellsFrom,Sem.run_bind,run_load,mw];rw[show off+i=off+(i+0)from rfl,h1];simp only[Result.andThen_ok];rw[ih b off (i+1) (acc.push v) (λj u hj=>by have:=hc (j+1) u (by simpa using hj);rw[show i+1+j=i+(j+1)by omega];exact this)];simp
theorem qT {b:Nat}:∀(n off:Nat) (vs:List Value),fj h b off n=some vs->vs.length=n/\∀ j v,vs[j]? = some v->rd h b (off+j)=some v:=by
 intro n;induction n with
 | zero=>intro off vs hr;simp[fj]at hr;subst hr;simp
 | succ n ih =>
  intro off vs hr;simp only[fj]at hr;split at hr
  ·rename_i v r h1 h2;simp only[Option.some.injEq]at hr;subst hr;obtain⟨h3,h4⟩:=ih _ _ h2;refine⟨by simp[h3],λj u hj=>?_⟩;cases j with
   | zero=>simp at hj;subst hj;exact h1
   | succ j=>simp at hj;rw[show off+(j+1)=off+1+j by omega];exact h4 j u hj
  ·cases hr
theorem sy:∀(n:Nat) (l vs:List Value),take n l=some vs->vs=l.take n/\n<=l.length
 | 0,l,vs,h=>by simp[take]at h;simp[h]
 | n+1,[],vs,h=>by simp[take]at h
 | n+1,a::r,vs,h=>by
  simp only[take]at h;split at h
  ·rename_i t ht;simp only[Option.some.injEq]at h;obtain⟨h1,h2⟩:=sy n r t ht;subst h;simp[h1,h2]
  ·cases h
theorem drop_eq:∀(n:Nat) (l:List Value),drop n l=l.drop n
 | 0,l=>rfl
 | n+1,[]=>rfl
 | n+1,_::r=>by simp[drop,drop_eq n r]
theorem wj:∀(l:List Value) (i:Nat) (v:Value),Nt l i v=l.set i v
 | [],i,v=>by simp[Nt]
 | a::r,0,v=>rfl
 | a::r,i+1,v=>by simp[Nt,wj r i v]
theorem xm:∀(vs l:List Value) (off:Nat),(eS l off vs).length=l.length
 | [],l,off=>rfl
 | v::r,l,off=>by simp[eS,xm r,wj]
theorem Dw (r:Rel D n h0 w0 β e h a w) {t:Nat} {cs:List Value} (hb:e.b t=some cs) {off:Nat} {v:Value} (hv:cs[off]? = some v):w.cell? ⟨β t,off,none⟩=some v:=by
 obtain⟨⟨ty,h1⟩,_,_⟩:=r.box t cs hb;simp[World.cell?,h1,hv]
theorem FF {t off k:Nat} {vs:List Value} (hr:yw e t off k=some vs):∃ cs,e.b t=some cs/\vs.length=k/\∀ j v,vs[j]? = some v->cs[off+j]? = some v:=by
 unfold yw at hr;split at hr
 ·rename_i cs hb;obtain⟨h1,h2⟩:=sy _ _ _ hr;rw[drop_eq]at h1 h2;refine⟨cs,hb,by rw[h1];simp at h2 ⊢;omega,λj v hj=>?_⟩;rw[h1]at hj;have Hp:j < k:=by
   have:=(List.getElem?_eq_some_iff.1 hj).1;simp at this;omega
  rw[List.getElem?_take_of_lt Hp,List.getElem?_drop]at hj;exact hj
 ·cases hr
theorem AB (hS:dQ P S) (r:Rel D n h0 w0 β e h a w) {t:TypeId} {ti:TI} {x:Operand}
  (dj:S.ty.find t=some ti) (hx:load ti (e.get x) e h K):∃ ad v,a.eval x=.pointer (some ad)/\(loadVar t ad).run P w=.ok v w/\K (.v v) none h:=by
 have tD:=r.nM x;have key:∀(b off:Nat) (vs:List Value),a.eval x=.pointer (some ⟨b,off,none⟩)->vs.length=ti.size->(∀ j v,vs[j]? = some v->w.cell? ⟨b,off+j,none⟩=some v) ->
   (ti.agg=true->K (.v (.agg ⟨vs⟩)) none h)->(ti.agg=false->∀ v,vs=[v]->K (.v v) none h)->(ti.agg=false->∃ v,vs=[v])->∃ ad v,a.eval x=.pointer (some ad)/\(loadVar t ad).run P w=.ok v w/\K (.v v) none h:=by
  intro b off vs he hlen hc h1 h2 h3;have hl:=run_loadCells (P:=P) (w:=w) vs b off 0 #[] (λj v hj=>by rw[Nat.zero_add];exact hc j v hj);rw[hlen]at hl;cases jI:ti.agg with
  | true =>
   refine⟨_,.agg ⟨vs⟩,he,?_,h1 jI⟩;simp only[loadVar,Sem.run_bind,sv hS dj,Result.andThen_ok,jI,if_true,run_sizeOf hS dj,loadCells,hl];simp
  | false =>
   obtain⟨v,rfl⟩:=h3 jI;refine⟨_,v,he,?_,h2 jI v rfl⟩;have:=hc 0 v rfl;simp only[Nat.add_zero]at this;simp[loadVar,sv hS dj,jI,this]
 unfold load at hx;split at hx
 ·rename_i u off hu;rw[hu]at tD;split at hx
  ·rename_i vs jB;obtain⟨cs,hb,hlen,hc⟩:=FF jB;refine key (β u) off vs tD.1 hlen (λj v hj=>Dw r hb (hc j v hj)) (λjI=>?_) (λjI v hv=>?_) (λjI=>?_)
   ·simp only[jI]at hx;rwa [bL]at hx
   ·simp only[jI,hv]at hx;exact hx
   ·simp only[jI]at hx;split at hx
    ·exact⟨_,rfl⟩
    ·exact hx.elim
  ·exact hx.elim
 ·rename_i b off hu;rw[hu]at tD;cases jI:ti.agg with
  | true =>
   simp only[jI]at hx;rw[uG]at hx;unfold Fy at hx;obtain⟨vs,jB,hK⟩:=hx;obtain⟨hlen,hc⟩:=qT _ _ _ jB;exact key b off vs tD hlen (λj v hj=>sx r.mv.view (hc j v hj)) (λ_=>hK) (λh=>by rw[jI]at h;cases h) (λh=>by rw[jI]at h;cases h)
  | false =>
   simp only[jI]at hx;split at hx
   ·rename_i hsz;rw[yq]at hx;unfold Rw at hx;obtain⟨v,hv,hK⟩:=hx;refine key b off [v] tD (by simp[hsz]) (λj u hj=>?_) (λh=>by rw[jI]at h;cases h) (λ_ u hu=>by simp at hu;subst hu;exact hK) (λ_=>⟨v,rfl⟩);cases j with
    | zero=>simp at hj;subst hj;exact sx r.mv.view hv
    | succ j=>simp at hj
   ·exact hx.elim
 ·exact hx.elim
theorem yC (hS:dQ P S) (r:Rel D n h0 w0 β e h a w) (hd:∀ d',o.dst=some d'->d' < n) {t:TypeId} {ti:TI} {x:Operand} (ho:o.op=.load t x)
  (dj:S.ty.find t=some ti) (hx:load ti (e.get x) e h K):Sound D P n h0 w0 o a w e K E:=by
 obtain⟨ad,v,h1,h2,h3⟩:=AB hS r dj hx;exact bT r hd (by simp[execOp,ho,h1,Instr.loadAt,Instr.sureAddr,h2]) h3
theorem FG {v:Value} (hv:mP v=true):v.oneCell'=true:=by cases v<;>simp_all [mP,Value.oneCell']
theorem J8 {w:World} {b:Nat} {o:Obj} (hb:w.heap[b]? = some o):w.heap.setIfInBounds b o=w.heap:=by
 apply Array.ext_getElem?
 intro i;rw[Array.getElem?_setIfInBounds];split
 ·rename_i hh;subst hh;simp[eV hb,(Array.getElem?_eq_some_iff.1 hb).2]
 ·rfl
theorem BT {w:World} {b off:Nat} {cs:Array Value} {ty:TypeId} (hb:w.heap[b]? = some (.cells cs ty (0,0))) (v:Value) :
  (w.setCell ⟨b,off,none⟩ v).heap=w.heap.setIfInBounds b (.cells (cs.setIfInBounds off v) ty (0,0)):=by
 apply Array.ext_getElem?
 intro i;simp only[World.setCell,Array.getElem?_modify,Array.getElem?_setIfInBounds];by_cases hi:b=i
 ·subst hi;have hg:=(Array.getElem?_eq_some_iff.1 hb).2;simp[eV hb,hg]
 ·simp[hi]
theorem iH (b:Nat) (ty:TypeId):∀(vs:List Value) (off i:Nat) (w:World) (cs:Array Value),w.heap[b]? = some (.cells cs ty (0,0))->off+i+vs.length<=cs.size->eu vs=true ->
  ∃ w',(storeCells ⟨b,off,none⟩ vs i).run P w=.ok () w'/\w'.heap=w.heap.setIfInBounds b (.cells (eS cs.toList (off+i) vs).toArray ty (0,0))/\w'.os=w.os/\w'.tape=w.tape/\w'.output=w.output:=by
 intro vs;induction vs with
 | nil =>
  intro off i w cs hb hl _;refine⟨w,by simp[storeCells],?_,rfl,rfl,rfl⟩;simp only[eS];rw[show cs.toList.toArray=cs from rfl,J8 hb]
 | cons v vs ih =>
  intro off i w cs hb hl eP;simp only[eu]at eP;split at eP
  ·rename_i hv;have hcell:w.cell? ⟨b,off+i,none⟩=some (cs[off+i]'(by simp at hl;omega)):=by simp[World.cell?,hb]
   have hfz:w.frozen? ⟨b,off+i,none⟩=false:=by simp[World.frozen?,hb]
   have ko:=BT (off:=off+i) hb v;have bA:(w.setCell ⟨b,off+i,none⟩ v).heap[b]? = some (.cells (cs.setIfInBounds (off+i) v) ty (0,0)):=by
    rw[ko];simp[eV hb]
   obtain⟨w',h1,h2,h2o⟩:=ih off (i+1) _ (cs.setIfInBounds (off+i) v) bA (by simp at hl ⊢;omega) eP;refine⟨w',?_,?_,h2o⟩
   ·simp only[storeCells,Sem.run_bind,mw,run_store P w _ v .plain (FG hv),hcell,hfz];simpa using h1
   ·rw[h2,ko];simp only[eS,wj,Array.toList_setIfInBounds];apply Array.ext_getElem?
    intro k;simp only[Array.getElem?_setIfInBounds];by_cases hk:b=k
    ·subst hk;simp[eV hb];rfl
    ·simp[hk]
  ·cases eP
theorem Rel.UU (r:Rel D n h0 w0 β e h a w) (d:Option Nat) (hd:∀ d',d=some d'->d' < n) {t:Nat} {cs jU:List Value} {ty:TypeId} (hb:e.b t=some cs)
  (N9:w.heap[β t]? = some (.cells cs.toArray ty (0,0))) {w':World} (hw:w'.heap=w.heap.setIfInBounds (β t) (.cells jU.toArray ty (0,0))) (ho:w'.os=w.os/\w'.tape=w.tape/\w'.output=w.output) :
  Rel D n h0 w0 β (e.put d (.v undef) (some (t,jU))) h (a.put d undef) w' where
 size:=by rw[yA,r.size]
 yx:=by rw[put_defers,r.yx]
 slot u:=by
  rw[yz a d undef u (by rw[r.size];exact hd)];have aux:∀ s v,mR β e s v->mR β (e.put d (.v undef) (some (t,jU))) s v:=by
   intro s v;cases s with
   | v x=>exact id
   | x=>exact id
   | l k off=>intro ⟨h1,h2⟩;refine⟨h1,?_⟩;simp only[Env.put];split<;>simp_all
   | r k m=>intro ⟨h1,h2⟩;refine⟨h1,?_⟩;simp only[Env.put];split<;>simp_all
  cases d with
  | none=>exact aux _ _ (r.slot u)
  | some d' =>
   by_cases hh:u=d'
   ·simp only[hh,if_true,Env.put];rfl
   ·have:=aux _ _ (r.slot u);simp only[hh,if_false,Env.put]at this ⊢;exact this
 box u ds hu:=by
  simp only[Env.put]at hu;have gE:=eV N9;obtain⟨_,h2,h3⟩:=r.box t cs hb;by_cases hh:u=t
  ·simp only[hh,if_true,Option.some.injEq]at hu;subst hu;subst hh;exact⟨⟨ty,by rw[hw];simp[gE]⟩,h2,h3⟩
  ·simp only[hh,if_false]at hu;obtain⟨⟨RC,h4⟩,h5,h6⟩:=r.box u ds hu;refine⟨⟨RC,?_⟩,h5,h6⟩;rw[hw,Array.getElem?_setIfInBounds,if_neg]
   ·exact h4
   ·intro Ix;exact hh (r.inj u t (by simp[hu]) (by simp[hb]) Ix.symm)
 inj u k hu hk Ix:=by
  refine r.inj u k ?_ ?_ Ix
  ·simp only[Env.put]at hu;split at hu<;>simp_all
  ·simp only[Env.put]at hk;split at hk<;>simp_all
 mv:={
  view:=λb o nH=>by
   rw[hw,Array.getElem?_setIfInBounds,if_neg]
   ·exact r.mv.view b o nH
   ·intro Ix;subst Ix;rw[(r.box t cs hb).2.1]at nH;cases nH
  aJ:=λb bA hn=>by
   rw[hw,Array.getElem?_setIfInBounds,if_neg]
   ·exact r.mv.aJ b bA hn
   ·intro Ix;have:=(r.box t cs hb).2.2;omega
  x9:=r.mv.x9
  size:=by rw[hw];simp;exact r.mv.size
  fz:=λb Ub t2 z fO=>by
   rw[hw]at fO;exact(Ho (λ_ _ _ h=>by cases h;rfl) fO).elim .inl (r.mv.fz b Ub t2 z)
  out:=⟨ho.1.trans r.mv.out.1,ho.2.1.trans r.mv.out.2.1,ho.2.2.trans r.mv.out.2.2⟩}
theorem pQ {ti:TI} {v:Value} {Kc:List Value->Prop} (hx:mq ti v Kc):∃ vs,Kc vs/\((ti.agg=true/\v=.agg ⟨vs⟩/\vs.length=ti.size)\/(ti.agg=false/\vs=[v]/\mP v=true)):=by
 unfold mq at hx;split at hx
 ·rename_i jI;split at hx
  ·rename_i cs;rw[bL]at hx;split at hx
   ·rename_i hl;exact⟨cs.toList,hx,.inl ⟨jI,rfl,Nat.eq_of_beq_eq_true hl⟩⟩
   ·exact hx.elim
  ·exact hx.elim
 ·rename_i jI;split at hx
  ·rename_i hv;exact⟨[v],hx,.inr ⟨jI,rfl,hv⟩⟩
  ·exact hx.elim
theorem BU {v:Value} (hv:mP v=true):v.cells = #[v]:=by cases v<;>simp_all [mP,Value.cells]
theorem oF {ti:TI} {v:Value} {vs:List Value} (hsz:ti.agg=false->ti.size=1)
  (hv:(ti.agg=true/\v=.agg ⟨vs⟩/\vs.length=ti.size)\/(ti.agg=false/\vs=[v]/\mP v=true)):v.cells=⟨vs⟩/\vs.length=ti.size:=by
 rcases hv with ⟨h1,h2,h3⟩|⟨h1,h2,h3⟩
 ·exact⟨by rw[h2];rfl,h3⟩
 ·subst h2;exact⟨BU h3,by simp[hsz h1]⟩
theorem Dx (hS:dQ P S) (r:Rel D n h0 w0 β e h a w) (hd:∀ d',o.dst=some d'->d' < n) {t:TypeId} {ti:TI} {x y:Operand} {v:Value} (ho:o.op=.store t x y)
  (dj:S.ty.find t=some ti) (hy:e.get y=.v v) (hx:store ti (e.get x) v e h K):Sound D P n h0 w0 o a w e K E:=by
 have tD:=r.nM x;have hsz:=hS.one t ti dj;unfold store at hx;obtain⟨vs,hx,jB⟩:=pQ hx;split at hx
 ·exact hx.elim
 rename_i eP;obtain⟨qU,hlen⟩:=oF hsz jB;have fC:∀ b off w',a.eval x=.pointer (some ⟨b,off,none⟩)->(storeCells ⟨b,off,none⟩ vs).run P w=.ok () w'->(execOp a.eval o).run P w=.ok .skip w':=by
  intro b off w' he hs;simp[execOp,ho,he,r.eval hy,Instr.storeAt,Instr.sureAddr,storeVar,run_sizeOf hS dj,qU,hlen,hs]
 split at hx
 ·rename_i u off hu;rw[hu]at tD;split at hx
  ·rename_i cs hb;split at hx
   ·rename_i hle;have hle:=Nat.le_of_ble_eq_true hle;rw[bL]at hx;obtain⟨⟨ty,h1⟩,h2,h3⟩:=r.box u cs hb;obtain⟨w',Iy,BV,Oa⟩:=iH (P:=P) (β u) ty vs off 0 w cs.toArray h1 (by simpa using hle) eP;intro next Q hk hE;unfold Oper.wp;rw[fC _ _ _ tD.1 Iy];exact hk _ _ h β _ w' hx (r.UU o.dst hd hb h1 (by simpa using BV) Oa)
   ·exact hx.elim
  ·exact hx.elim
 ·rename_i b off hu;rw[hu]at tD;rw[FA]at hx;unfold UQ at hx;obtain⟨cs,ty,hb,hle,hK⟩:=hx;obtain⟨w',Iy,BV,Oa⟩:=iH (P:=P) b ty vs off 0 w cs (r.mv.view _ _ hb) (by simpa using hle) eP;refine yB r hd (fC _ _ _ tD Iy) (dn.J7 r.mv.view hb _ (by simpa using BV) Oa) hK
 ·exact hx.elim
theorem Dy (hS:dQ P S) (r:Rel D n h0 w0 β e h a w) (hd:∀ d',o.dst=some d'->d' < n) {F:Fs} {t:TypeId} {ti:TI} {x:Operand} {v:Value} (ho:o.op=.box t x)
  (dj:S.ty.find t=some ti) (hv:e.get x=.v v) (hx:mq ti v λcs=>newVar F t o.dst cs e h K):Sound D P n h0 w0 o a w e K E:=by
 obtain⟨vs,hx,jB⟩:=pQ hx;obtain⟨qU,hlen⟩:=oF (hS.one t ti dj) jB;refine uL r hd ?_ hx;simp[execOp,ho,r.eval hv,Instr.box,Go.newVar,Go.newRow,qU]
theorem Dz (hS:dQ P S) (r:Rel D n h0 w0 β e h a w) (hd:∀ d',o.dst=some d'->d' < n) {F:Fs} {t:TypeId} {ti:TI} (ho:o.op=.alloc t)
  (dj:S.ty.find t=some ti) (hx:newVar F t o.dst ti.zero e h K):Sound D P n h0 w0 o a w e K E:=by
 refine uL r hd ?_ hx;obtain⟨z,hz,hc⟩:=kZ hS dj w;have:z.cells=ti.zero.toArray:=by rw[<-hc]
 simp[execOp,ho,Instr.alloc,Go.newVar,Go.newRow,hz,this]
theorem yD:∀(vs:List Value) (off k:Nat) (cs:Array Value),
  ((vs.zipIdx k).foldl (λcs (c,j)=>cs.setIfInBounds (off+j) c) cs).toList=eS cs.toList (off+k) vs
 | [],off,k,cs=>rfl
 | v::vs,off,k,cs=>by
  simp only[List.zipIdx_cons,List.foldl_cons,eS,wj];rw[yD vs off (k+1) (cs.setIfInBounds (off+k) v)];simp[Nat.add_assoc]
theorem wk (pl:Nat->Option Nat) (place:Nat->Option (Nat × Nat)):∀(ps:List (Nat × Value)) (qs:List (Nat × List Value)) (cs:Array Value) (out:List Value),
  pL pl cs.toList qs=some out->ps.length=qs.length ->
  (∀ i (hi:i < ps.length) (hj:i < qs.length),qs[i].1=ps[i].1/\(ps[i].2).cells=⟨qs[i].2⟩/\∀ off,pl ps[i].1=some off->place ps[i].1=some (off,qs[i].2.length)) ->
  Instr.fill place cs ps=some out.toArray
 | [],[],cs,out,h,_,_=>by simp[pL]at h;simp[Instr.fill,<-h]
 | [],_::_,_,_,_,h,_=>by simp at h
 | _::_,[],_,_,_,h,_=>by simp at h
 | (i,v)::ps,(j,vs)::qs,cs,out,h,hl,eI=>by
  have h0:=eI 0 (by simp) (by simp);simp only[List.getElem_cons_zero]at h0;obtain⟨hij,hc,hp⟩:=h0;subst hij;simp only[pL]at h;split at h
  ·rename_i off ho;split at h
   ·rename_i hle;have hle:=Nat.le_of_ble_eq_true hle;simp only[Instr.fill,hp off ho,hc];have hf:=yD vs off 0 cs;have hsz:¬(vs.length≠vs.length||decide (off+vs.length > cs.size))=true:=by simp at hle ⊢;omega
    simp only[List.size_toArray];rw[if_neg (by simpa using hle)];refine wk pl place ps qs _ out ?_ (by simpa using hl) (λk hk DA=>?_)
    ·rw[<-h];congr 1
     rw[<-Nat.add_zero off,<-hf];simp[Array.foldl_toList]
    ·have:=eI (k+1) (by simpa using hk) (by simpa using DA);simpa using this
   ·cases h
  ·cases h
theorem tP {sW:Nat->Option TI}:∀(ps:List (Nat × Operand)) (Kp:List (Nat × List Value)->Prop),parts e sW ps Kp ->
  ∃ qs,Kp qs/\qs.length=ps.length/\∀ i (hi:i < ps.length) (hj:i < qs.length),qs[i].1=ps[i].1/\∃ v ti,e.get ps[i].2=.v v/\sW ps[i].1=some ti /\
   ((ti.agg=true/\v=.agg ⟨qs[i].2⟩/\qs[i].2.length=ti.size)\/(ti.agg=false/\qs[i].2=[v]/\mP v=true))
 | [],Kp,h=>⟨[],h,rfl,λi hi=>by simp at hi⟩
 | (k,x)::ps,Kp,h=>by
  simp only[parts]at h;split at h
  ·rename_i v ti hv dj;obtain⟨vs,h,jB⟩:=pQ h;obtain⟨qs,h1,h2,h3⟩:=tP ps _ h;refine⟨(k,vs)::qs,h1,by simp[h2],λi hi hj=>?_⟩;cases i with
   | zero=>exact⟨rfl,v,ti,hv,dj,jB⟩
   | succ i=>exact h3 i (by simpa using hi) (by simpa using hj)
  ·exact h.elim
theorem Hq (z:List Value):∀ n,uI n z=(List.replicate n z).flatten
 | 0=>rfl
 | n+1=>by simp[uI,List.replicate_succ,Hq z n]
theorem DB (z:List Value) (hz:0 < z.length):∀(n i:Nat),i < n*z.length->((List.replicate n z).flatten)[i]? = z[i % z.length]?
 | 0,i,h=>by simp at h
 | n+1,i,h=>by
  rw[List.replicate_succ,List.flatten_cons];by_cases hi:i < z.length
  ·rw[List.getElem?_append_left hi,Nat.mod_eq_of_lt hi]
  ·rw[List.getElem?_append_right (by omega),DB z hz n (i-z.length) (by rw[Nat.succ_mul]at h;omega)];congr 1
   rw[<-Nat.mod_eq_sub_mod (by omega)]
theorem uM (z:List Value) (n:Nat):((List.replicate n z).flatten).length=n*z.length:=by simp
theorem yE (z:Array Value) (n:Nat):(Array.range (n*z.size)).map (λi=>z[i % z.size]!)=((List.replicate n z.toList).flatten).toArray:=by
 by_cases hz:0 < z.size
 ·apply Array.ext_getElem?
  intro i;by_cases hi:i < n*z.size
  ·simp only[Array.getElem?_map,List.getElem?_toArray];rw[DB z.toList (by simpa using hz) n i (by simpa using hi)];have hm:i % z.size < z.size:=Nat.mod_lt _ hz;simp[hi,hm]
  ·rw[Array.getElem?_eq_none (by simp;omega),List.getElem?_toArray,List.getElem?_eq_none (by simp;omega)]
 ·have h0:z.size=0:=by omega
  have h1:z.toList=[]:=by simpa using h0
  simp[h0,h1]
theorem xo (hS:dQ P S):∀(fs:List Field),(∀ f∈fs,(S.ty.find f.type).isSome) ->
  ∃ l:List (Nat × Nat),(∀ w:World,(fs.mapM (λ(f:Field)=>(do pure (f.offset,<-Go.sizeOf f.type):Sem (Nat × Nat)))).run P w=.ok l w)/\l.length=fs.length /\
   ∀ i (hi:i < fs.length) ti,S.ty.find (fs[i]).type=some ti->l[i]? = some ((fs[i]).offset,ti.size)
 | [],_=>⟨[],λw=>by simp,rfl,λi hi=>by simp at hi⟩
 | f::fs,eI=>by
  obtain⟨l,h1,h2,h3⟩:=xo hS fs (λg hg=>eI g (by simp[hg]));obtain⟨ti,dj⟩:=Option.isSome_iff_exists.1 (eI f (by simp));refine⟨(f.offset,ti.size)::l,λw=>?_,by simp[h2],λi hi tj hj=>?_⟩
  ·rw[List.mapM_cons];simp only[Sem.run_bind,run_sizeOf hS dj,Result.andThen_ok,Sem.run_pure,h1]
  ·cases i with
   | zero=>simp only[List.getElem_cons_zero]at hj ⊢;rw[dj]at hj;simp only[Option.some.injEq]at hj;subst hj;rfl
   | succ i=>simp only[List.getElem_cons_succ,List.getElem?_cons_succ]at hj ⊢;exact h3 i (by simpa using hi) tj hj
theorem DC (hS:dQ P S) (r:Rel D n h0 w0 β e h a w) (hd:∀ d',o.dst=some d'->d' < n) {t:TypeId} {ps:Array (Nat × Operand)} (ho:o.op=.build t ps)
  (hx:Ry S t ps.toList e λv=>K (.v v) none h):Sound D P n h0 w0 o a w e K E:=by
 unfold Ry at hx;split at hx
 ·rename_i ti dj;split at hx
  ·exact hx.elim
  rename_i pl sW fV;obtain⟨qs,hx,hlen,Qe⟩:=tP _ _ hx;split at hx
  ·rename_i cs hcs;rw[bL]at hx;obtain⟨z,hz,J9⟩:=kZ hS dj w;obtain⟨d,nX,jI,qV⟩:=dB hS dj w;refine jH r hd (v:=.agg ⟨cs⟩) ?_ (s:=.v (.agg ⟨cs⟩)) rfl hx;have AD:∀ place:Nat->Option (Nat × Nat),(∀ i Oc,sW i=some Oc->∀ off,pl i=some off->place i=some (off,Oc.size)) ->
     Instr.fill place z.cells (ps.map λ(i,x)=>(i,a.eval x)).toList=some cs.toArray:=by
    intro place hp;refine wk pl place _ qs z.cells cs (by rw[J9];exact hcs) (by simp[hlen]) (λi hi hj=>?_);have xp:i < ps.toList.length:=by simpa using hi
    obtain⟨h1,v,Oc,h2,h3,h4⟩:=Qe i xp hj;have aaI:Oc.agg=false->Oc.size=1:=by
     unfold FC at fV;split at fV
     ·simp only[Option.some.injEq,Prod.mk.injEq]at fV;rw[<-fV.2]at h3;simp only at h3;split at h3
      ·exact hS.one _ _ h3
      ·cases h3
     ·simp only[Option.some.injEq,Prod.mk.injEq]at fV;rw[<-fV.2]at h3;exact hS.one _ _ h3
     ·cases fV
    obtain⟨h5,h6⟩:=oF aaI h4;simp only[Array.toList_map,List.getElem_map];refine⟨h1,?_,λoff ho=>?_⟩
    ·rw[r.eval h2];exact h5
    ·rw[h6];exact hp _ _ h3 off ho
   unfold FC at fV;have fC:(execOp a.eval o).run P w=((Instr.build t (ps.map λ(i,x)=>(i,a.eval x))).run P w).andThen (λv w'=>.ok (.value v) w'):=by
    simp[execOp,ho]
   rw[fC];split at fV
   ·rename_i fs qO;simp only[Option.some.injEq,Prod.mk.injEq]at fV;cases d<;>simp only[nJ,qO]at qV<;>try cases qV
    rename_i fields;obtain⟨l,ji,hl2,tQ⟩:=xo hS fields.toList (λf hf=>by
     obtain⟨tj,Nu,_⟩:=hS.dw t ti _ dj qO (f.offset,f.type) (List.mem_map.2 ⟨f,hf,rfl⟩);simp only at Nu;simp[Nu])
    have:=AD (λi=>l.toArray[i]?) (λi Oc h3 off h4=>by
     rw[<-fV.2]at h3;rw[<-fV.1]at h4;simp only[List.getElem?_map]at h3 h4;by_cases hi:i < fields.toList.length
     ·rw[List.getElem?_eq_getElem hi]at h3 h4;simp only[Option.map_some,Option.some.injEq]at h3 h4;rw[List.getElem?_toArray,tQ i hi Oc h3,h4]
     ·rw[List.getElem?_eq_none (by omega)]at h3;cases h3)
    simp only[Instr.build,Sem.run_bind,hz,nX,Result.andThen_ok];have hm:∀ w,(fields.mapM (λ(f:Field)=>(do pure (f.offset,<-Go.sizeOf f.type):Sem (Nat × Nat)))).run P w=.ok l.toArray w:=by
     intro w;rw[Array.mapM_eq_mapM_toList,Sem.run_map,ji w];rfl
    rw[hm];simp only[Result.andThen_ok,this,Sem.run_pure]
   ·rename_i k el qO;simp only[Option.some.injEq,Prod.mk.injEq]at fV;cases d<;>simp only[nJ,qO]at qV<;>try cases qV
    obtain⟨te,ju⟩:=Option.isSome_iff_exists.1 (hS.elems t ti _ _ dj qO);have:=AD (λi=>some (i*te.size,te.size)) (λi Oc h3 off h4=>by
     rw[<-fV.2]at h3;rw[<-fV.1]at h4;simp only[ju,Option.some.injEq]at h3 h4;subst h3;split at h4
     ·simp only[Option.some.injEq]at h4;rw[h4]
     ·cases h4)
    simp only[Instr.build,Sem.run_bind,hz,nX,Result.andThen_ok,run_sizeOf hS ju,this,Sem.run_pure]
   ·cases fV
  ·exact hx.elim
 ·exact hx.elim
theorem wm (hS:dQ P S) (r:Rel D n h0 w0 β e h a w) (hd:∀ d',o.dst=some d'->d' < n) {F:Fs} {t el:TypeId} {k:Nat} {ti te:TI} {ps:Array (Nat × Operand)} (ho:o.op=.buildSlice t k ps)
  (dj:S.ty.find t=some ti) (qV:ti.d=.sl el) (ju:S.ty.find el=some te) (hle:k*te.size<=16777216)
  (hx:parts e (λ_=>some te) ps.toList λvs=>match pL (λi=>some (i*te.size)) (uI k te.zero) vs with
     | some cs=>newRow F el o.dst k cs e h K
     | none=>False):Sound D P n h0 w0 o a w e K E:=by
 obtain⟨qs,hx,hlen,Qe⟩:=tP _ _ hx;split at hx
 ·rename_i cs hcs;refine BS r hd ?_ hx;obtain⟨d,nX,jI,fT⟩:=dB hS dj w;rw[qV]at fT;cases d<;>simp only[nJ]at fT<;>try cases fT
  obtain⟨z,hz,J9⟩:=kZ hS ju w;have UW:z.cells.size=te.size:=by rw[<-hS.zero _ _ ju,<-J9];simp
  have AD:Instr.fill (λi=>some (i*te.size,te.size)) ((List.replicate k te.zero).flatten).toArray (ps.map λ(i,x)=>(i,a.eval x)).toList=some cs.toArray:=by
   refine wk (λi=>some (i*te.size)) _ _ qs _ cs (by rw[<-Hq];exact hcs) (by simp[hlen]) (λi hi hj=>?_);have xp:i < ps.toList.length:=by simpa using hi
   obtain⟨h1,v,Oc,h2,h3,h4⟩:=Qe i xp hj;simp only[Option.some.injEq]at h3;subst h3;obtain⟨h5,h6⟩:=oF (hS.one _ _ ju) h4;simp only[Array.toList_map,List.getElem_map];refine⟨h1,?_,λoff ho=>?_⟩
   ·rw[r.eval h2];exact h5
   ·simp only[Option.some.injEq]at ho;rw[h6,ho]
  have fC:(execOp a.eval o).run P w=((Instr.buildSlice t k (ps.map λ(i,x)=>(i,a.eval x))).run P w).andThen (λv w'=>.ok (.value v) w'):=by
   simp[execOp,ho]
  rw[fC];simp only[Instr.buildSlice,Sem.run_bind,nX,Result.andThen_ok,run_sizeOf hS ju];rw[if_neg (by simp;omega)];by_cases h0:k*te.size=0
  ·rw[if_pos h0];have Iz:(List.replicate k te.zero).flatten=[]:=by
    apply List.eq_nil_of_length_eq_zero;rw[uM,hS.zero _ _ ju];exact h0
   rw[Iz]at AD;simp only[h0,Sem.run_bind,Sem.run_pure,Result.andThen_ok];simp only[show Array.range 0 = #[]from rfl,Array.map_empty];rw[AD];simp[Go.newRow]
  ·rw[if_neg h0];have UX:=yE z.cells k;rw[UW,J9]at UX;simp only[Sem.run_bind,hz,Result.andThen_ok,Sem.run_pure,UW,UX,AD];simp[Go.newRow]
 ·exact hx.elim
theorem xR (hS:dQ P S) (r:Rel D n h0 w0 β e h a w) (hd:∀ d',o.dst=some d'->d' < n) {t el:TypeId} {ti te:TI} {x y:Operand} {k c:Int} (ho:o.op=.makeSlice t x y)
  (dj:S.ty.find t=some ti) (qV:ti.d=.sl el) (ju:S.ty.find el=some te) (BW:e.get x=.v (.int .i64 k)) (Od:e.get y=.v (.int .i64 c))
  (hx:Ob (k=c/\0<=k/\k*te.bytes<=2 ^ 44/\k<=2 ^ 44) (JQ h (List.replicate k.toNat te.zero).flatten el λb h'=>K (.v (.slice (some ⟨b,0,none⟩) k.toNat k.toNat)) none h')):Sound D P n h0 w0 o a w e K E:=by
 rw[J3]at hx;unfold Ob_ at hx;rw[pK]at hx;unfold BO at hx;obtain⟨⟨rfl,Nv,hkb,adA⟩,hx⟩:=hx;refine jO r hd (v:=.slice (some ⟨w.heap.size,0,none⟩) k.toNat k.toNat) (w':={w with heap:=w.heap.push (.cells ((List.replicate k.toNat te.zero).flatten).toArray el)}) ?_ (dn.push r.mv.view _) (s:=.v (.slice (some ⟨w.heap.size,0,none⟩) k.toNat k.toNat)) rfl (hx _ r.fresh);obtain⟨d,nX,jI,fT⟩:=dB hS dj w;rw[qV]at fT;cases d<;>simp only[nJ]at fT<;>try cases fT
 obtain⟨z,hz,J9⟩:=kZ hS ju w;obtain⟨i,hi,BY,Uc⟩:=mG hS ju w;have UW:z.cells.size=te.size:=by rw[<-hS.zero _ _ ju,<-J9];simp
 have UY:IntKind.i64.wrap k=k:=by simp[IntKind.wrap,IntKind.bits,IntKind.signed];omega
 have fC:(execOp a.eval o).run P w=((Instr.makeSlice t (.int .i64 k) (.int .i64 k)).run P w).andThen (λv w'=>.ok (.value v) w'):=by
  simp[execOp,ho,r.eval BW,r.eval Od]
 rw[fC];have RD:¬((i.bytes:Int)*k > 2 ^ 48):=by rw[BY,Int.mul_comm];omega
 simp only[Instr.makeSlice,Sem.run_bind,nX,Result.andThen_ok,asInt,asIntOf,Sem.run_pure,hi,UY];rw[if_neg (by simp at RD ⊢;omega)];simp only[Sem.run_bind,run_askRoom,Result.andThen_ok,run_sizeOf hS ju];by_cases hz0:k.toNat*te.size=0
 ·rw[if_pos hz0];have Iz:(List.replicate k.toNat te.zero).flatten=[]:=by
   apply List.eq_nil_of_length_eq_zero;rw[uM,hS.zero _ _ ju];exact hz0
  simp[hz0,Iz,Go.newRow,show Array.range 0 = #[]from rfl]
 ·rw[if_neg hz0];have UX:=yE z.cells k.toNat;rw[UW,J9]at UX;simp only[Sem.run_bind,hz,Result.andThen_ok,Sem.run_pure,UW,UX];simp[Go.newRow]
theorem de {p q:Prop}:Ob p q↔p/\q:=by rw[J3];unfold Ob_;exact Iff.rfl
theorem add_zero' (a:Addr):a.add 0=a:=by simp[Addr.add]
theorem BZ (a:Option Addr) (k:Nat):a.map (λa=>a.add (0*k))=a:=by cases a<;>simp[add_zero']
theorem Ca {size:Nat} {p:Option Addr} {m cap:Nat} {lo hi:Option Operand} {Kc:Value->Prop} (r:Rel D n h0 w0 β e h a w)
  (hx:pO size p m cap (iG e lo) (iG e hi) Kc) :
  ∃ l hh:Nat,(∀ w:World,(Instr.sliceBounds true m cap (lo.map a.eval) (hi.map a.eval) none).run P w=.ok (l,hh,cap) w) /\
   Kc (.slice (if cap=l then p else p.map (·.add (l*size))) (hh-l) (cap-l)):=by
 have nY:∀ H:Nat,pN size p cap (iG e lo) H Kc->∃ l:Nat,(∀ w:World,(match lo.map a.eval with
   | some v=>Instr.sliceBound v H .sliceB
   | none=>pure 0).run P w=.ok l w)/\Kc (.slice (if cap=l then p else p.map (·.add (l*size))) (H-l) (cap-l)):=by
  intro H hx;unfold pN at hx;cases lo with
  | none =>
   simp only[iG]at hx;refine⟨0,λw=>by simp,?_⟩;rw[BZ];simpa using hx
  | some x =>
   simp only[iG]at hx;split at hx
   ·rename_i hh;cases hh
   ·rename_i k l hl;simp only[Option.some.injEq]at hl;obtain⟨hb,hx⟩:=de.1 hx;rw[BQ]at hx;unfold J5 at hx;refine⟨l.toNat,λw=>?_,?_⟩
    ·simp only[Option.map_some,r.eval hl,Instr.sliceBound,asIntOf,Sem.run_bind,Sem.run_pure,Result.andThen_ok,if_pos hb]
    ·refine hx _ (λcH=>by rw[if_neg cH]) (λhe=>by rw[if_pos he])
   ·exact hx.elim
 unfold pO at hx;cases hi with
 | none =>
  simp only[iG]at hx;obtain⟨l,h1,h2⟩:=nY m hx;refine⟨l,m,λw=>?_,h2⟩;have:=h1 w;cases lo<;>simp_all [Instr.sliceBounds]
 | some y =>
  simp only[iG]at hx;split at hx
  ·rename_i hh;cases hh
  ·rename_i k x hy;simp only[Option.some.injEq]at hy;obtain⟨hb,hx⟩:=de.1 hx;obtain⟨l,h1,h2⟩:=nY x.toNat hx;clear hx nY;refine⟨l,x.toNat,λw=>?_,h2⟩;have:=h1 w;cases lo with
   | none =>
    simp only[Option.map_none,Sem.run_pure]at this;simp only[Instr.sliceBounds,Option.map_some,Option.map_none,r.eval hy,Instr.sliceBound,asIntOf,Sem.run_bind,Sem.run_pure,Result.andThen_ok,if_true,if_pos hb];injection this with h3 _
    rw[h3]
   | some z =>
    simp only[Option.map_some]at this;have RE:(Instr.sliceBound (.int k x) cap .sliceAcap).run P w=.ok x.toNat w:=by
     simp only[Instr.sliceBound,asIntOf,Sem.run_bind,Sem.run_pure,Result.andThen_ok,if_pos hb]
    simp only[Instr.sliceBounds,Option.map_some,r.eval hy,Option.isSome_none,Bool.false_eq_true,if_false,if_true,Sem.run_bind,Sem.run_pure,Result.andThen_ok,RE,this]
  ·exact hx.elim
theorem DD (hS:dQ P S) (r:Rel D n h0 w0 β e h a w) (hd:∀ d',o.dst=some d'->d' < n) {t el:TypeId} {ti te:TI} {x:Operand} {lo hi:Option Operand} {p:Option Addr} {m cap:Nat} (ho:o.op=.slice t x lo hi none)
  (dj:S.ty.find t=some ti) (qV:ti.d=.sl el) (ju:S.ty.find el=some te) (BW:e.get x=.v (.slice p m cap))
  (hx:pO te.size p m cap (iG e lo) (iG e hi) λv=>K (.v v) none h):Sound D P n h0 w0 o a w e K E:=by
 obtain⟨l,hh,h1,h2⟩:=Ca (P:=P) r hx;refine bT r hd ?_ h2;obtain⟨d,nX,jI,fT⟩:=dB hS dj w;rw[qV]at fT;cases d<;>simp only[nJ]at fT<;>try cases fT
 simp only[execOp,ho,Instr.sliceAt,Instr.slice,Sem.run_bind,nX,Result.andThen_ok,r.eval BW,Option.map_none,h1,run_sizeOf hS ju,Sem.run_pure]
theorem xS (hS:dQ P S) (r:Rel D n h0 w0 β e h a w) (hd:∀ d',o.dst=some d'->d' < n) {t:TypeId} {ti:TI} {fs:List (Nat × TypeId)} {i k:Nat} {u:TypeId} {x:Operand} (ho:o.op=.fieldAddr t x i)
  (dj:S.ty.find t=some ti) (qV:ti.d=.str fs) (hf:fs[i]? = some (k,u))
  (hx:match e.get x with
    | .l u off=>K (.l u (off+k)) none h
    | .v (.pointer (some ⟨b,off,none⟩))=>K (.v (.pointer (some ⟨b,off+k,none⟩))) none h
    | _=>False):Sound D P n h0 w0 o a w e K E:=by
 obtain⟨d,nX,jI,fT⟩:=dB hS dj w;rw[qV]at fT;cases d<;>simp only[nJ]at fT<;>try cases fT
 rename_i fields;have tD:=r.nM x;rw[List.getElem?_map,Array.getElem?_toList]at hf;cases Nw:fields[i]? with
 | none=>rw[Nw]at hf;cases hf
 | some f =>
  rw[Nw]at hf;simp only[Option.map_some,Option.some.injEq,Prod.mk.injEq]at hf;obtain⟨tj,Nu,hsz⟩:=hS.dw t ti _ dj qV (f.offset,f.type) (List.mem_map.2 ⟨f,Array.mem_toList_iff.2 (Array.mem_of_getElem? Nw),rfl⟩);have fC:∀ b off,a.eval x=.pointer (some ⟨b,off,none⟩)->(execOp a.eval o).run P w=.ok (.value (.pointer (some ⟨b,off+k,none⟩))) w:=by
   intro b off he;simp[execOp,ho,he,Instr.fieldAt,nX,Nw,Instr.sureAddr,fieldPlace,run_sizeOf hS Nu,hsz,mw,hf.1]
  split at hx
  ·rename_i v off hv;rw[hv]at tD;exact jH r hd (fC _ _ tD.1) (s:=.l v (off+k)) ⟨rfl,tD.2⟩ hx
  ·rename_i b off hv;rw[hv]at tD;exact jH r hd (fC _ _ tD) (s:=.v _) rfl hx
  ·exact hx.elim
theorem tE {k m:Nat} {l vs:List Value} (hv:take k (drop m l)=some vs):vs.length=k/\∀ j v,vs[j]? = some v->l[m+j]? = some v:=by
 obtain⟨h1,h2⟩:=sy _ _ _ hv;rw[drop_eq]at h1 h2;refine⟨by rw[h1];simp at h2 ⊢;omega,λj v hj=>?_⟩;rw[h1]at hj;have Hp:j < k:=by
  have:=(List.getElem?_eq_some_iff.1 hj).1;simp at this;omega
 rw[List.getElem?_take_of_lt Hp,List.getElem?_drop]at hj;exact hj
theorem FH {k m:Nat} {cs:Array Value} {vs:List Value} (hv:take k (drop m cs.toList)=some vs):cs.extract m (m+k)=⟨vs⟩:=by
 obtain⟨h1,h2⟩:=sy _ _ _ hv;rw[drop_eq]at h1 h2;apply Array.ext'
 rw[h1];simp[List.extract_eq_take_drop]
theorem DE (hS:dQ P S) (r:Rel D n h0 w0 β e h a w) (hd:∀ d',o.dst=some d'->d' < n) {t u:TypeId} {ti tu:TI} {fs:List (Nat × TypeId)} {i k:Nat} {x:Operand} {cs:Array Value} {vs:List Value} (ho:o.op=.field t x i)
  (dj:S.ty.find t=some ti) (qV:ti.d=.str fs) (hf:fs[i]? = some (k,u)) (BW:e.get x=.v (.agg cs)) (Cb:S.ty.find u=some tu)
  (hx:match tu.agg with
      | true=>lJ vs λvs=>K (.v (.agg ⟨vs⟩)) none h
      | false=>match vs with
       | [v]=>K (.v v) none h
       | _=>False) (jB:take tu.size (drop k cs.toList)=some vs):Sound D P n h0 w0 o a w e K E:=by
 obtain⟨d,nX,jI,fT⟩:=dB hS dj w;rw[qV]at fT;cases d<;>simp only[nJ]at fT<;>try cases fT
 rename_i fields;rw[List.getElem?_map,Array.getElem?_toList]at hf;cases Nw:fields[i]? with
 | none=>rw[Nw]at hf;cases hf
 | some f =>
  rw[Nw]at hf;simp only[Option.map_some,Option.some.injEq,Prod.mk.injEq]at hf;obtain⟨IA,hf2⟩:=hf;rw[<-hf2]at Cb;have fC:(execOp a.eval o).run P w=((part f.type cs k).run P w).andThen (λv w'=>.ok (.value v) w'):=by
   simp[execOp,ho,r.eval BW,Instr.field,nX,Nw,asAgg,IA]
  cases Oe:tu.agg with
  | true =>
   simp only[Oe]at hx;rw[bL]at hx;refine bT r hd ?_ hx;rw[fC];simp only[part,Sem.run_bind,sv hS Cb,Oe,Result.andThen_ok,if_true,run_sizeOf hS Cb,Sem.run_pure,FH jB]
  | false =>
   simp only[Oe]at hx;rcases vs with _|⟨v,_|_⟩
   ·exact hx.elim
   ·refine bT r hd ?_ hx;obtain⟨_,hc⟩:=tE jB;have:=hc 0 v rfl;rw[fC];have hk:cs[k]? = some v:=by simpa using this
    simp[part,sv hS Cb,Oe,hk]
   ·exact hx.elim
theorem xT (hS:dQ P S) (r:Rel D n h0 w0 β e h a w) (hd:∀ d',o.dst=some d'->d' < n) {t:TypeId} {x y:Operand} {kk:IntKind} {i:Int} (ho:o.op=.indexAddr t x y)
  (hy:e.get y=.v (.int kk i))
  (hx:match S.ty.find t with
   | some ⟨_,_,_,_,.sl el⟩=>match S.ty.find el,e.get x with
    | some ti,.v (.slice p n _)=>Ob (0<=i/\i < n) (Ptr p λb off=>K (.v (.pointer (some ⟨b,off+i.toNat*ti.size,none⟩))) none h)
    | some ti,.r u n=>Ob (0<=i/\i < n) (K (.l u (i.toNat*ti.size)) none h)
    | _,_=>False
   | some ⟨_,_,_,_,.arr n el⟩=>match S.ty.find el,e.get x with
    | some ti,.v (.pointer (some ⟨b,off,none⟩))=>Ob (0<=i/\i < n) (K (.v (.pointer (some ⟨b,off+i.toNat*ti.size,none⟩))) none h)
    | some ti,.l u off=>Ob (0<=i/\i < n) (K (.l u (off+i.toNat*ti.size)) none h)
    | _,_=>False
   | _=>False):Sound D P n h0 w0 o a w e K E:=by
 have tD:=r.nM x;have hye:=r.eval hy;split at hx
 ·rename_i el dj;obtain⟨d,nX,jI,fT⟩:=dB hS dj w;cases d<;>simp only[nJ]at fT<;>try cases fT
  have fC:∀ te,S.ty.find el=some te->∀ b off m c,a.eval x=.slice (some ⟨b,off,none⟩) m c->(0<=i/\i < m)->(execOp a.eval o).run P w=.ok (.value (.pointer (some ⟨b,off+i.toNat*te.size,none⟩))) w:=by
   intro te ju b off m c he hb;simp[execOp,ho,he,hye,Instr.indexAt,nX,asIntOf,hb,run_sizeOf hS ju,mw]
  split at hx
  ·rename_i te p m c ju hv;rw[hv]at tD;obtain⟨hb,hx⟩:=de.1 hx;rw[su]at hx;unfold Du at hx;obtain⟨b,off,hp,hk⟩:=hx;subst hp;exact bT r hd (fC te ju _ _ _ _ tD hb) hk
  ·rename_i te u m ju hv;rw[hv]at tD;obtain⟨hb,hx⟩:=de.1 hx;refine jH r hd (fC te ju _ _ _ _ tD.1 hb) (s:=.l u (i.toNat*te.size)) ⟨?_,tD.2⟩ hx;simp
  ·exact hx.elim
 ·rename_i k el dj;obtain⟨d,nX,jI,fT⟩:=dB hS dj w;cases d<;>simp only[nJ]at fT<;>try cases fT
  have fC:∀ te,S.ty.find el=some te->∀ b off,a.eval x=.pointer (some ⟨b,off,none⟩)->(0<=i/\i < k)->(execOp a.eval o).run P w=.ok (.value (.pointer (some ⟨b,off+i.toNat*te.size,none⟩))) w:=by
   intro te ju b off he hb;simp[execOp,ho,he,hye,Instr.indexAt,nX,asIntOf,hb,Instr.sureAddr,run_sizeOf hS ju,mw]
  split at hx
  ·rename_i te b off ju hv;rw[hv]at tD;obtain⟨hb,hx⟩:=de.1 hx;exact bT r hd (fC te ju _ _ tD hb) hx
  ·rename_i te u off ju hv;rw[hv]at tD;obtain⟨hb,hx⟩:=de.1 hx;exact jH r hd (fC te ju _ _ tD.1 hb) (s:=.l u (off+i.toNat*te.size)) ⟨rfl,tD.2⟩ hx
  ·exact hx.elim
 ·exact hx.elim
theorem An (r:Rel D n h0 w0 β e h a w) (hd:∀ d',o.dst=some d'->d' < n) {x:Operand} {i:Nat} {vs:Array Value} {v:Value} (ho:o.op=.extract x i)
  (BW:e.get x=.v (.tuple vs)) (hv:BR 0 (take 1 (drop i vs.toList))=some v) (hx:K (.v v) none h):Sound D P n h0 w0 o a w e K E:=by
 refine bT r hd ?_ hx;have:vs[i]? = some v:=by
  unfold BR at hv;split at hv
  ·rename_i l hl;obtain⟨h1,h2⟩:=tE hl;match l,h1,hv,h2 with
   | [u],_,hv,h2 =>
    simp only[Option.some.injEq]at hv;subst hv;have:=h2 0 u rfl;simpa using this
  ·cases hv
 simp[execOp,ho,r.eval BW,Instr.extract,this]
theorem AE (nl:Nat):∀(k c:Nat),256<=c->Builtin.growBy nl k c<=2 ^ k*c
 | 0,c,_=>by simp[Builtin.growBy]
 | k+1,c,h=>by
  unfold Builtin.growBy;split
  ·have:1<=2 ^ (k+1):=Nat.one_le_two_pow;exact Nat.le_mul_of_pos_left c this
  ·have h1:=AE nl k (c+(c+768) / 4) (by omega);have h2:c+(c+768) / 4<=2*c:=by omega
   calc _<=2 ^ k*(c+(c+768) / 4):=h1
    _<=2 ^ k*(2*c):=Nat.mul_le_mul_left _ h2
    _=2 ^ (k+1)*c:=by rw[Nat.pow_succ,Nat.mul_assoc]
theorem yF {need cap:Nat} (h:cap < need):Builtin.nextslicecap need cap<=16*need:=by
 unfold Builtin.nextslicecap;split
 ·omega
 ·split
  ·omega
  ·have:=AE need 4 cap (by omega);omega
theorem pR (z:Array Value) (k:Nat):Builtin.zeroCells z k=((List.replicate k z.toList).flatten).toArray:=yE z k
theorem DF (r:Rel D n h0 w0 β e h a w) {size:Nat} {y:Operand} {Kc:Nat->List Value->Prop} (hx:appArg e size (e.get y) h Kc) :
  ∃ m vs,Kc m vs/\(∀ w1:World,(Builtin.lenOf (a.eval y)).run P w1=.ok m w1) /\
   ∀ w1:World,w1.heap=w.heap->(Builtin.firstCells size m (a.eval y)).run P w1=.ok vs.toArray w1:=by
 have De:=r.nM y;unfold appArg at hx;split at hx
 ·rename_i t k hy;rw[hy]at De;split at hx
  ·rename_i cs hb;split at hx
   ·rename_i hl;have hl:=Nat.eq_of_beq_eq_true hl;refine⟨k,cs,hx,λw1=>by rw[De.1];rfl,λw1 hw=>?_⟩;rw[De.1];simp only[Builtin.firstCells,loadCells];have:=run_loadCells (P:=P) (w:=w1) cs (β t) 0 0 #[] (λj v hj=>by
     have:=Dw r hb hj;simp only[World.cell?,hw]at this ⊢;simpa using this)
    rw[hl]at this;simpa using this
   ·exact hx.elim
  ·exact hx.elim
 ·rename_i p k c hy;rw[hy]at De;rw[uH]at hx;unfold Fz at hx;rcases hx with ⟨hz,hx⟩|⟨b,off,vs,rfl,jB,hx⟩
  ·have Ka:a.eval y=.slice p k c:=De;refine⟨k,[],hx,λw1=>by rw[Ka];rfl,λw1 _=>?_⟩;rw[Ka];rcases hz with rfl|hz
   ·rfl
   ·cases p with
    | none=>rfl
    | some q =>
     simp only[Builtin.firstCells,hz];rfl
  ·obtain⟨hl,hc⟩:=qT _ _ _ jB;have Ka:a.eval y=.slice (some ⟨b,off,none⟩) k c:=De;refine⟨k,vs,hx,λw1=>by rw[Ka];rfl,λw1 hw=>?_⟩;rw[Ka];simp only[Builtin.firstCells,loadCells];have:=run_loadCells (P:=P) (w:=w1) vs b off 0 #[] (λj v hj=>by
    have:=sx r.mv.view (hc j v hj);simp only[World.cell?,hw]at this ⊢;simpa using this)
   rw[hl]at this;simpa using this
 ·exact hx.elim
theorem Cc (hS:dQ P S) (r:Rel D n h0 w0 β e h a w) (hd:∀ d',o.dst=some d'->d' < n) {t u el:TypeId} {ti tu te:TI} {el':TypeId} {x y:Operand} {args:Array Operand} {ts:Array TypeId} {p:Option Addr} {k cap:Nat}
  (ho:o.op=.call {callee:=.builtin .append,args:=args,argTypes:=ts}) (hargs:args.toList=[x,y]) (Hr:ts.toList=[t,u])
  (dj:S.ty.find t=some ti) (qV:ti.d=.sl el) (Cb:S.ty.find u=some tu) (RF:tu.d=.sl el') (ju:S.ty.find el=some te) (BW:e.get x=.v (.slice p k cap))
  (hx:appArg e te.size (e.get y) h λm vs=>App te.bytes te.size te.zero el h p k cap m vs λv h'=>K (.v v) none h'):Sound D P n h0 w0 o a w e K E:=by
 obtain⟨m,vs,hx,hm,jB⟩:=DF (P:=P) r hx;have pT:args = #[x,y]:=by rw[<-hargs]
 have aaJ:ts = #[t,u]:=by rw[<-Hr]
 obtain⟨d,nX,jI,fT⟩:=dB hS dj w;rw[qV]at fT;cases d<;>simp only[nJ]at fT<;>try cases fT
 obtain⟨du,UZ,_,FI⟩:=dB hS Cb w;rw[RF]at FI;cases du<;>simp only[nJ]at FI<;>try cases FI
 have fC:(execOp a.eval o).run P w=((Builtin.append_ #[t,u] o.type #[.slice p k cap,a.eval y]).run P w).andThen (λv w'=>.ok (.value v) w'):=by
  simp[execOp,ho,pT,aaJ,resolve,invoke,builtin,r.eval BW]
 rw[pM]at hx;unfold BP at hx;by_cases hle:k+m<=cap
 ·obtain⟨eP,hx⟩:=hx.1 hle;have Kb:∀ w',(match p with
    | some a=>(storeCells (a.add (k*te.size)) vs).run P w=.ok () w'
    | none=>w'=w)->(execOp a.eval o).run P w=.ok (.value (.slice p (k+m) cap)) w':=by
   intro w' hw;rw[fC];simp only[Builtin.append_,List.getElem?_toArray,List.getElem?_cons_zero,List.getElem?_cons_succ,Sem.run_bind,nX,Result.andThen_ok,run_sizeOf hS ju,UZ,Sem.run_pure,Bool.false_eq_true,if_false,hm,if_pos hle,Bool.not_false,if_true,jB w rfl];cases p with
   | none=>simp only at hw;subst hw;simp
   | some pa=>simp only at hw;simp[hw]
  rcases p with _|⟨b,off,_|sp⟩
  ·obtain⟨aaK,hK⟩:=hx;exact bT r hd (Kb w rfl) hK
  ·obtain⟨cs,ty,hb,FJ,hK⟩:=hx;obtain⟨w',Iy,BV,Oa⟩:=iH (P:=P) b ty vs (off+k*te.size) 0 w cs (r.mv.view _ _ hb) (by simpa using FJ) eP;refine jO r hd (Kb w' ?_) (dn.J7 r.mv.view hb _ (by simpa using BV) Oa) (s:=.v (.slice (some ⟨b,off,none⟩) (k+m) cap)) rfl hK;simp only[mw];exact Iy
  ·exact hx.elim
 ·obtain⟨hby,U0,iB,hold,hx⟩:=hx.2 (by omega);obtain⟨i,hi,BY,Uc⟩:=mG hS ju w;obtain⟨z,hz,J9⟩:=kZ hS ju w;have U1:=yF (need:=k+m) (cap:=cap) (by omega);have tR:Builtin.nextslicecap (k+m) cap*te.bytes<=2 ^ 48:=by
   have h1:=Nat.mul_le_mul_right te.bytes U1;rw[Nat.mul_assoc]at h1;omega
  have Ke:∀ w1:World,w1.heap=w.heap->(Builtin.firstCells te.size k (.slice p k cap)).run P w1=.ok iB.toArray w1:=by
   intro w1 hw;rcases p with _|⟨b,off,_|sp⟩
   ·rw[hold.2];rfl
   ·obtain⟨hl,hc⟩:=qT _ _ _ hold;simp only[Builtin.firstCells,loadCells];have:=run_loadCells (P:=P) (w:=w1) iB b off 0 #[] (λj v hj=>by
     have:=sx r.mv.view (hc j v hj);simp only[World.cell?,hw]at this ⊢;simpa using this)
    rw[hl]at this;simpa using this
   ·exact hold.elim
  obtain⟨nc,RG,RH⟩:∃ nc,k+m<=nc/\(choose (.appendCap (k+m) cap el)).run P w=.ok nc {w with drawn:=w.drawn+1}:=by
   refine⟨_,?_,by simp[Question.forced];rfl⟩;simp only[Question.cut];omega
  have IB:z.cells=te.zero.toArray:=by rw[<-J9]
  have RI:¬(((k+m:Nat):Int) > IntKind.i64.max):=by
   have:(IntKind.i64.max:Int)=9223372036854775807:=by decide
   rw[this];omega
  refine jO r hd (v:=.slice (some ⟨w.heap.size,0,none⟩) (k+m) nc) (w':={w with drawn:=w.drawn+1,heap:=w.heap.push (.cells (iB++vs++(List.replicate (nc-(k+m)) te.zero).flatten).toArray el)}) ?_ ?_ (s:=.v (.slice (some ⟨w.heap.size,0,none⟩) (k+m) nc)) rfl (hx _ nc r.fresh RG)
  ·rw[fC];simp only[Builtin.append_,List.getElem?_toArray,List.getElem?_cons_zero,List.getElem?_cons_succ,Sem.run_bind,nX,Result.andThen_ok,run_sizeOf hS ju,UZ,Sem.run_pure,Bool.false_eq_true,if_false,hm,if_neg hle,Bool.not_false,if_true,hi,BY];rw[if_neg (by rintro⟨h1,_⟩;exact RI h1)];simp only[Sem.run_bind,Sem.run_pure,Result.andThen_ok,hi,BY];rw[if_neg (by omega)];simp only[Sem.run_bind,Sem.run_pure,Result.andThen_ok,RH,hi,BY,run_askRoom];obtain⟨i2,Cd,_,_⟩:=mG hS ju {w with drawn:=w.drawn+1};simp only[Cd,Result.andThen_ok];rw[Ke {w with drawn:=w.drawn+1} rfl];simp only[Result.andThen_ok];rw[jB {w with drawn:=w.drawn+1} rfl];obtain⟨z',RJ,IB⟩:=kZ hS ju {w with drawn:=w.drawn+1};have Kf:z'.cells=te.zero.toArray:=by rw[<-IB]
   simp only[Result.andThen_ok,RJ,pR,Kf,Go.newRow,Sem.run_bind,run_newObj,Sem.run_pure];simp
  ·have:=dn.push r.mv.view (.cells (iB++vs++(List.replicate (nc-(k+m)) te.zero).flatten).toArray el);exact⟨this.view,this.aJ,this.x9,this.size,this.fz,rfl,rfl,rfl⟩
theorem mH:∀(xs:List Operand) (Kc:List Value->Prop),aW e xs Kc->∃ vs,Kc vs/\vs.length=xs.length/\∀ i (hi:i < xs.length) (hj:i < vs.length),e.get xs[i]=.v vs[i]
 | [],Kc,h=>⟨[],h,rfl,λi hi=>by simp at hi⟩
 | x::xs,Kc,h=>by
  simp only[aW]at h;split at h
  ·rename_i v hv;obtain⟨vs,h1,h2,h3⟩:=mH xs _ h;refine⟨v::vs,h1,by simp[h2],λi hi hj=>?_⟩;cases i with
   | zero=>exact hv
   | succ i=>exact h3 i (by simpa using hi) (by simpa using hj)
  ·exact h.elim
theorem qW (r:Rel D n h0 w0 β e h a w) {xs:Array Operand} {vs:List Value} (h1:vs.length=xs.toList.length) (h2:∀ i (hi:i < xs.toList.length) (hj:i < vs.length),e.get xs.toList[i]=.v vs[i]):xs.map a.eval=vs.toArray:=by
 apply Array.ext
 ·simp at h1 ⊢;exact h1.symm
 ·intro i hi hj;simp at hi hj;have:=h2 i (by simpa using hi) hj;simp only[Array.getElem_toList]at this;simp[r.eval this]
theorem Ce (hS:dQ P S) (r:Rel D n h0 w0 β e h a w) (hd:∀ d',o.dst=some d'->d' < n) {x:Bool} {f:Operand} {fv:Value} {args:Array Operand} {ts:Array TypeId} (ho:o.op=.call {callee:=.value f,args:=args,argTypes:=ts})
  (hf:e.get f=.v fv) (hx:aW e args.toList λargs=>qS P S x fv args h K E):Sound D P n h0 w0 o a w e K E:=by
 obtain⟨vs,hx,h1,h2⟩:=mH _ _ hx;have hargs:=qW r h1 h2;unfold qS at hx;split at hx
 ·rename_i g first captured hx9;split at hx
  ·rename_i AF RE;obtain⟨fn,US,AG,Kg⟩:=hS.fn g (Nat.le_of_ble_eq_true AF) (by have:=RE;simp[Nat.blt]at this;omega);rw[bL]at hx;have fC:(execOp a.eval o).run P w=.ok (.enter g (first++vs.toArray++captured)) w:=by
    simp only[execOp,ho,resolve,r.eval hf,Deferred.ofValue,hargs,Sem.run_bind,Sem.run_pure,Result.andThen_ok,invoke,callFunc,run_program,US,Kg,Bool.false_eq_true,if_false,AG]
   have qX:(first.toList++vs++captured.toList).toArray=first++vs.toArray++captured:=by
    apply Array.ext';simp
   have nY:∀ R,cZ P g (first.toList++vs++captured.toList) h R->(∀ v h',R (.ret v) h'->K (.v v) none h')->(∀ c h',R (.lY c) h'->E c h')->Sound D P n h0 w0 o a w e K E:=by
    intro R hR hRk hRe next Q hk hE;unfold Oper.wp;rw[fC];simp only[Oper.upon];rw[<-qX];refine(hR w r.mv.view).mono ?_;intro en w' ⟨h',m,hm⟩;cases en with
    | returned v=>exact hk _ none h' β _ w' (hRk v h' hm) (r.put m o.dst hd rfl)
    | panicked c=>exact hE c h' a w' (hRe c h' hm) (r.mv.trans m) r.yx
    | outgrown=>exact hm.elim
   split at hx
   ·rw[sr]at hx;unfold v9 at hx;exact nY _ hx (λv h' hh=>hh.2) (λc h' hh=>hh)
   ·rw[uF]at hx;unfold yp at hx;exact nY _ hx (λv h' hh=>hh) (λc h' hh=>hh)
  ·exact hx.elim
 ·exact hx.elim
theorem AH (hS:dQ P S) (r:Rel D n h0 w0 β e h a w) (hd:∀ d',o.dst=some d'->d' < n) {x:Operand} {args:Array Operand} {ts:Array TypeId} {k c:Nat} {p:Option Addr} {ti:TI} {el:TypeId} (ho:o.op=.call {callee:=.builtin .len,args:=args,argTypes:=ts})
  (hargs:args.toList=[x]) (dj:(ts.toList.head?).bind (λt=>S.ty.find t)=some ti) (qV:ti.d=.sl el) (BW:a.eval x=.slice p k c) (hx:K (.v (.int .i64 k)) none h):Sound D P n h0 w0 o a w e K E:=by
 refine bT r hd ?_ hx;have pT:args = #[x]:=by rw[<-hargs]
 cases Hr:ts.toList with
 | nil=>rw[Hr]at dj;cases dj
 | cons t ts' =>
  rw[Hr]at dj;simp only[List.head?_cons,Option.bind_some]at dj;obtain⟨d,nX,jI,fT⟩:=dB hS dj w;rw[qV]at fT;cases d<;>simp only[nJ]at fT<;>try cases fT
  have h0:ts[0]? = some t:=by rw[<-Array.getElem?_toList,Hr];rfl
  simp[execOp,ho,pT,resolve,invoke,builtin,BW,Builtin.len_,h0,nX,goInt]
theorem DG {j k:IntKind} (hh:sameKind j k=true):j=k:=by cases j<;>cases k<;>simp_all [sameKind]
theorem jq {k:IntKind} {x:Int} {Kc:Int->Prop}:Ar k x Kc↔Kc (k.wrap x):=by rw[Rv];unfold Ar_;exact Iff.rfl
theorem xU (op:BinOp) (t:TypeId) (x y:Operand) (j k:IntKind) (i m:Int) (w:World):(eqGuard op t x y (.int j i) (.int k m)).run P w=.ok () w:=by
 unfold eqGuard;cases op<;>rfl
theorem Cf (r:Rel D n h0 w0 β e h a w) (hd:∀ d',o.dst=some d'->d' < n) {op:BinOp} {t u:TypeId} {x y:Operand} {j k:IntKind} {i m:Int} (ho:o.op=.binOp op t x y u)
  (BW:e.get x=.v (.int j i)) (Od:e.get y=.v (.int k m)) (Hp:sameKind j k=true) {raw:Prop} (lK:raw->Sound D P n h0 w0 o a w e K E) (hx:wg op j i m (λv=>K (.v v) none h) raw):Sound D P n h0 w0 o a w e K E:=by
 have Hp:=DG Hp;subst Hp;have fC:∀ v,(Go.binOp op t (.int j i) (.int j m)).run P w=.ok v w->(execOp a.eval o).run P w=.ok (.value v) w:=by
  intro v hv;simp only[execOp,ho,r.eval BW,r.eval Od,Sem.run_bind,xU,Result.andThen_ok,hv,Sem.run_pure]
 cases op<;>simp only[wg]at hx<;>first
  | exact lK hx
  | (rw[jq]at hx;exact bT r hd (fC _ (by simp[Go.binOp,Op.intArith])) hx)
  | (obtain⟨h1,hx⟩:=de.1 hx;rw[jq]at hx;exact bT r hd (fC _ (by simp[Go.binOp,Op.intDiv,h1])) hx)
  | (obtain⟨h1,hx⟩:=de.1 hx;exact bT r hd (fC _ (by simp[Go.binOp,Op.intDiv,h1])) hx)
  | (
   refine bT r hd (fC _ ?_) hx;first
    | (simp[Go.binOp,Op.intCmp];done)
    | (simp[Go.binOp,Op.intCmp];rfl)
    | (simp[Go.binOp,Op.intCmp,bne,BEq.beq];done)
    | (simp[Go.binOp,Op.intBits,xl];done))
theorem oG (op:BinOp) (t:TypeId) (x y:Operand) (b c:Bool) (w:World):(eqGuard op t x y (.bool b) (.bool c)).run P w=.ok () w:=by
 unfold eqGuard;cases op<;>rfl
theorem run_equal_bool {t:TypeId} {b c:Bool} {w:World} (hd:(underlying t).run P w=.ok .bool w):(Op.equal t (.bool b) (.bool c)).run P w=.ok (b==c) w:=by
 unfold Op.equal Op.maxDepth;rw[show(10000:Nat)=9999+1 from rfl,Op.equalIn];simp only[Sem.run_bind,hd,Result.andThen_ok];rfl
theorem AI (r:Rel D n h0 w0 β e h a w) (hd:∀ d',o.dst=some d'->d' < n) (hx:Raw P o e h λv h'=>K (.v v) none h'):Sound D P n h0 w0 o a w e K E:=by
 rw[nL]at hx;unfold Al at hx;obtain⟨hv,hx⟩:=hx;obtain⟨v,w',h',fC,m,hK⟩:=hx a.eval (λx Kh=>by obtain⟨v,hv⟩:=hv x Kh;rw[hv,r.eval hv]) w r.mv.view;rcases fC with fC|⟨fC,rfl⟩
 ·exact jO r hd fC m (s:=.v v) rfl hK
 ·exact yB r hd fC m hK
theorem cD (r:Rel D n h0 w0 β e h a w) (hd:∀ d',o.dst=some d'->d' < n) {x:Bool} (hx:match x && !J6 o.op with
  | true=>False
  | false=>Raw P o e h λv h'=>K (.v v) none h'):Sound D P n h0 w0 o a w e K E:=by
 split at hx
 ·exact hx.elim
 ·exact AI r hd hx
theorem FK (r:Rel D n h0 w0 β e h a w) (hd:∀ d',o.dst=some d'->d' < n) {x:Bool} (hx:Am P o e h x K):Sound D P n h0 w0 o a w e K E:=by
 unfold Am at hx;split at hx
 ·rw[qR]at hx;unfold yt at hx;obtain⟨hv,v,hK,fC⟩:=hx;exact bT r hd (fC a.eval (λx Kh=>by obtain⟨v,hv⟩:=hv x Kh;rw[hv,r.eval hv]) w) hK
 ·exact AI r hd hx
theorem pU (r:Rel D n h0 w0 β e h a w) (hd:∀ d',o.dst=some d'->d' < n) {x:Operand} (ho:(execOp a.eval o).run P w=.ok (.value (a.eval x)) w) (hx:match e.get x with
    | .x=>False
    | s=>K s none h):Sound D P n h0 w0 o a w e K E:=by
 have tD:=r.nM x;split at hx
 ·exact hx.elim
 ·exact jH r hd ho tD hx
theorem FL (hS:dQ P S) {F:Fs} {x:Bool} (r:Rel D n h0 w0 β e h a w) (hd:∀ d',o.dst=some d'->d' < n) (hx:exec P S F x o e h K E):Sound D P n h0 w0 o a w e K E:=by
 obtain⟨dst,op,ty,pos,after,guard⟩:=o;cases op with
 | move y=>exact pU r hd (x:=y) (by simp[execOp]) hx
 | assign y=>exact pU r hd (x:=y) (by simp[execOp]) hx
 | pick c y z =>
  simp only[exec]at hx;split at hx
  ·rename_i t ht;have hc:=r.eval ht;cases t with
   | true=>exact pU r hd (x:=y) (by simp[execOp,hc,asBool]) hx
   | false=>exact pU r hd (x:=z) (by simp[execOp,hc,asBool]) hx
  ·exact hx.elim
 | alloc t =>
  simp only[exec]at hx;split at hx
  ·rename_i ti dj;exact Dz hS r hd rfl dj hx
  ·exact hx.elim
 | box t y =>
  simp only[exec]at hx;split at hx
  ·rename_i v ti hv dj;exact Dy hS r hd rfl dj hv hx
  ·exact hx.elim
 | build t ps=>exact DC hS r hd rfl hx
 | buildSlice t k ps =>
  simp only[exec]at hx;split at hx
  ·rename_i el dj;split at hx
   ·rename_i te ju;split at hx
    ·rename_i hle;exact wm hS r hd rfl dj rfl ju (Nat.le_of_ble_eq_true hle) hx
    ·exact hx.elim
   ·exact hx.elim
  ·exact hx.elim
 | load t y =>
  simp only[exec]at hx;split at hx
  ·rename_i ti dj;split at hx
   ·split at hx
    ·rename_i u off hy;rw[<-hy]at hx;exact yC hS r hd rfl dj hx
    ·exact hx.elim
   ·exact yC hS r hd rfl dj hx
  ·exact hx.elim
 | store t y z =>
  simp only[exec]at hx;split at hx
  ·rename_i ti v dj hv;exact Dx hS r hd rfl dj hv hx
  ·exact hx.elim
 | nilCheck y =>
  simp only[exec]at hx;have De:=r.nM y;split at hx
  ·rename_i t off hy;rw[hy]at De;exact jH r hd (v:=.pointer (some ⟨β t,off,none⟩)) (by simp[execOp,De.1]) (s:=.l t off) ⟨rfl,De.2⟩ hx
  ·rename_i p hy;exact bT r hd (by simp[execOp,r.eval hy]) hx
  ·rename_i t v hy;exact bT r hd (by simp[execOp,r.eval hy]) hx
  ·rename_i g f c hy;exact bT r hd (by simp[execOp,r.eval hy]) hx
  ·exact cD r hd hx
 | binOp op t y z u =>
  simp only[exec]at hx;split at hx
  ·rename_i j i k m hy hz;split at hx
   ·rename_i Hp;exact Cf r hd rfl hy hz Hp (cD r hd) hx
   ·exact cD r hd hx
  ·rename_i b c hy hz;split at hx
   ·rename_i dj;obtain⟨d,nX,_,qV⟩:=dB hS dj w;cases d<;>simp only[nJ]at qV<;>try cases qV
    split at hx
    ·refine bT r hd ?_ hx;simp only[execOp,r.eval hy,r.eval hz,Sem.run_bind,oG,Result.andThen_ok];rw[show Go.binOp .eql t (.bool b) (.bool c)=(do pure (.bool (<-Op.equal t (.bool b) (.bool c))))from rfl];simp only[Sem.run_bind,run_equal_bool nX,Result.andThen_ok,Sem.run_pure]
    ·refine bT r hd ?_ hx;simp only[execOp,r.eval hy,r.eval hz,Sem.run_bind,oG,Result.andThen_ok];rw[show Go.binOp .neq t (.bool b) (.bool c)=(do pure (.bool (!(<-Op.equal t (.bool b) (.bool c)))))from rfl];simp only[Sem.run_bind,run_equal_bool nX,Result.andThen_ok,Sem.run_pure,bne]
    ·exact cD r hd hx
   ·exact cD r hd hx
  ·exact FK r hd hx
 | unOp op t y =>
  simp only[exec]at hx;split at hx
  ·rename_i b hy;exact bT r hd (by simp[execOp,r.eval hy,Op.unary]) hx
  ·rename_i k m hy;rw[jq]at hx;exact bT r hd (by simp[execOp,r.eval hy,Op.unary,Op.intArith]) hx
  ·exact cD r hd hx
 | convert s t y =>
  simp only[exec]at hx;split at hx
  ·rename_i ti tj k m dj Nu hy;split at hx
   ·rename_i k' U2;rw[jq]at hx;refine bT r hd ?_ hx;obtain⟨d,nX,_,qV⟩:=dB hS Nu w;obtain⟨d',aaL,_,_⟩:=dB hS dj w;rw[U2]at qV;cases d<;>simp only[nJ]at qV<;>try cases qV
    simp only[execOp,Go.convert,Sem.run_bind,aaL,nX,Result.andThen_ok,r.eval hy,Conv.intToInt,Sem.run_pure]
   ·exact cD r hd hx
  ·exact cD r hd hx
 | index t y z =>
  simp only[exec]at hx;split at hx
  ·rename_i s k i hy hz;split at hx
   ·rename_i dj;obtain⟨hb,hx⟩:=de.1 hx;refine bT r hd ?_ hx;obtain⟨d,nX,_,qV⟩:=dB hS dj w;cases d<;>simp only[nJ]at qV<;>try cases qV
    have gE:i.toNat < s.size:=by omega
    have hg:s[i.toNat]? = some (s[i.toNat]'gE):=by simp[gE]
    have hl:s.data.toList.getD i.toNat 0=s[i.toNat]'gE:=by
     have:i.toNat < s.data.toList.length:=by simpa using gE
     have h2:s.data[i.toNat]? = some (s.data[i.toNat]'gE):=Array.getElem?_eq_getElem gE;simp[List.getD_eq_getElem?_getD,h2];rfl
    simp only[execOp,Instr.index,r.eval hy,r.eval hz,asIntOf,Sem.run_bind,Sem.run_pure,Result.andThen_ok,nX,if_pos hb.1,hg,hl]
   ·exact cD r hd hx
  ·exact cD r hd hx
 | makeInterface t y =>
  simp only[exec]at hx;split at hx
  ·rename_i ti v dj hy;split at hx
   ·exact hx.elim
   ·rename_i cH;refine bT r hd ?_ hx;obtain⟨d,nX,_,qV⟩:=dB hS dj w;cases d<;>first
     | (exfalso;exact cH (by rw[<-qV];rfl))
     | simp[execOp,r.eval hy,Instr.makeInterface,nX]
  ·exact hx.elim
 | makeFunc f fs cs =>
  simp only[exec]at hx;obtain⟨vs,hx,h1,h2⟩:=mH _ _ hx;obtain⟨us,hx,h3,h4⟩:=mH _ _ hx;exact bT r hd (by simp only[execOp,qW r h1 h2,qW r h3 h4,Instr.makeFunc];rfl) hx
 | slice t y lo hi mx =>
  simp only[exec]at hx;split at hx
  ·rename_i el dj;split at hx
   ·rename_i te p m cap ju hy;exact DD hS r hd rfl dj rfl ju hy hx
   ·exact cD r hd hx
  ·exact cD r hd hx
 | fieldAddr t y i =>
  simp only[exec]at hx;split at hx
  ·rename_i fs dj;split at hx
   ·rename_i k u hf;exact xS hS r hd rfl dj rfl hf hx
   ·exact hx.elim
  ·exact hx.elim
 | field t y i =>
  simp only[exec]at hx;split at hx
  ·rename_i fs dj;split at hx
   ·rename_i k u hf;split at hx
    ·rename_i cs tu hy Cb;split at hx
     ·rename_i vs jB;exact DE hS r hd rfl dj rfl hf hy Cb hx jB
     ·exact hx.elim
    ·exact hx.elim
   ·exact hx.elim
  ·exact hx.elim
 | indexAddr t y z =>
  simp only[exec]at hx;split at hx
  ·rename_i k i hz;exact xT hS r hd rfl hz hx
  ·exact hx.elim
 | extract y i =>
  simp only[exec]at hx;split at hx
  ·rename_i vs hy;split at hx
   ·rename_i v hv;exact An r hd rfl hy hv hx
   ·exact hx.elim
  ·exact hx.elim
 | makeSlice t y z =>
  simp only[exec]at hx;split at hx
  ·rename_i el dj;split at hx
   ·rename_i te k c ju hy hz;exact xR hS r hd rfl dj rfl ju hy hz hx
   ·exact hx.elim
  ·exact hx.elim
 | panic y =>
  simp only[exec]at hx;split at hx
  ·rename_i t v hy;intro next Q hk hE;unfold Oper.wp;have:(execOp a.eval ⟨dst,.panic y,ty,pos,after,guard⟩).run P w=.halt (.panic (.iface t v)) w:=by
    simp[execOp,r.eval hy,Instr.panic]
   rw[this];exact hE _ h a w hx r.mv r.yx
  ·exact hx.elim
 | call c =>
  obtain⟨callee,args,ts⟩:=c;cases callee with
  | value f =>
   simp only[exec]at hx;split at hx
   ·rename_i fv hf;exact Ce hS r hd rfl hf hx
   ·exact hx.elim
  | invoke y m=>exact cD r hd hx
  | builtin b =>
   cases b with
   | len =>
    simp only[exec]at hx;split at hx
    ·rename_i y hargs;have De:=r.nM y;split at hx
     ·rename_i p k c hy;rw[hy]at De;split at hx
      ·rename_i el dj;exact AH hS r hd rfl hargs dj rfl De hx
      ·exact hx.elim
     ·rename_i u k hy;rw[hy]at De;split at hx
      ·rename_i el dj;exact AH hS r hd rfl hargs dj rfl De.1 hx
      ·exact hx.elim
     ·exact cD r hd hx
    ·exact hx.elim
   | max =>
    simp only[exec]at hx;split at hx
    ·rename_i y z hargs;split at hx
     ·rename_i k m k' m' hy hz;split at hx
      ·have pT:args = #[y,z]:=by rw[<-hargs]
       refine bT r hd ?_ hx;simp only[execOp,resolve,Sem.run_bind,Sem.run_pure,Result.andThen_ok,invoke,builtin,Builtin.max_,pT];simp[r.eval hy,r.eval hz,Builtin.max2,mx]
      ·exact cD r hd hx
     ·exact cD r hd hx
    ·exact cD r hd hx
   | min =>
    simp only[exec]at hx;split at hx
    ·rename_i y z hargs;split at hx
     ·rename_i k m k' m' hy hz;split at hx
      ·have pT:args = #[y,z]:=by rw[<-hargs]
       refine bT r hd ?_ hx;simp only[execOp,resolve,Sem.run_bind,Sem.run_pure,Result.andThen_ok,invoke,builtin,Builtin.min_,pT];simp[r.eval hy,r.eval hz,Builtin.min2,mn]
      ·exact cD r hd hx
     ·exact cD r hd hx
    ·exact cD r hd hx
   | cap =>
    simp only[exec]at hx;split at hx
    ·rename_i y hargs;split at hx
     ·rename_i p k c hy;split at hx
      ·rename_i el dj;have pT:args = #[y]:=by rw[<-hargs]
       refine bT r hd ?_ hx;cases Hr:ts.toList with
       | nil=>rw[Hr]at dj;cases dj
       | cons t ts' =>
        rw[Hr]at dj;simp only[List.head?_cons,Option.bind_some]at dj;obtain⟨d,nX,jI,fT⟩:=dB hS dj w;cases d<;>simp only[nJ]at fT<;>try cases fT
        have h0:ts[0]? = some t:=by rw[<-Array.getElem?_toList,Hr];rfl
        simp[execOp,pT,resolve,invoke,builtin,r.eval hy,Builtin.cap_,h0,nX,goInt]
      ·exact hx.elim
     ·exact cD r hd hx
    ·exact hx.elim
   | append =>
    simp only[exec]at hx;split at hx
    ·rename_i y z t u hargs Hr;split at hx
     ·rename_i el el' dj Cb;split at hx
      ·rename_i te ju;split at hx
       ·rename_i p k cap hy;exact Cc hS r hd rfl hargs Hr dj rfl Cb rfl ju hy hx
       ·exact hx.elim
      ·exact hx.elim
     ·exact cD r hd hx
    ·exact hx.elim
   | _=>exact cD r hd hx
 | _=>exact cD r hd hx
set_option linter.constructorNameAsVariable false
set_option linter.unusedVariables false
variable {D:List Deferred} {P:Program} {S:oD} {n:Nat} {h0:Heap} {w0:World} {β:Nat->Nat} {e:Env} {h:Heap} {a:Act} {w:World}
theorem wq:∀(l:List Oper) (i:Nat),nth l i=l[i]?
 | [],i=>by cases i<;>rfl
 | _::_,0=>rfl
 | _::r,i+1=>by simp[nth,wq r i]
theorem AJ {b:Bool} {t f:Prop} (hx:fG b t f):(b=true/\t)\/(b=false/\f):=by
 cases b
 ·exact .inr ⟨rfl,hx⟩
 ·exact .inl ⟨rfl,hx⟩
theorem Rel.known (r:Rel D n h0 w0 β e h a w) {d:Nat} {b:Bool} (hs:e.s d=.v (.bool b)):Rel D n h0 w0 β (e.put (some d) (.v (.bool b)) none) h a w where
 size:=r.size
 yx:=r.yx
 slot t:=by
  simp only[Env.put];by_cases hh:t=d
  ·simp only[hh,if_true];have:=r.slot d;rw[hs]at this;exact this
  ·simp only[hh,if_false];have:=r.slot t;revert this;cases e.s t<;>exact id
 box:=r.box
 inj:=r.inj
 mv:=r.mv
theorem FM (r:Rel D n h0 w0 β e h a w) {ops:Array Oper} {j d:Nat} {o:Oper} (ho:ops[j]? = some o) (hd:o.dst=some d) {b:Bool} (hs:e.s d=.v (.bool b)):yielded ops a.tmps j=some b:=by
 have:=r.slot d;rw[hs]at this;have hv:a.tmps.getD d undef=.bool b:=this;have:a.tmps[d]? = some (.bool b):=by
  rw[Array.getD_eq_getD_getElem?]at hv;cases hg:a.tmps[d]? with
  | none=>rw[hg]at hv;simp[undef]at hv
  | some v=>rw[hg]at hv;simp at hv;rw[hv]
 simp[yielded,ho,hd,this]
theorem Cg (r:Rel D n h0 w0 β e h a w) {ops:Array Oper} {j d:Nat} {o:Oper} (ho:ops[j]? = some o) (hd:o.dst=some d) {vs:Array Value} (hs:e.s d=.v (.tuple vs)):yielded ops a.tmps j=none:=by
 have:=r.slot d;rw[hs]at this;have hv:a.tmps.getD d undef=.tuple vs:=this;cases hg:a.tmps[d]? with
 | none=>simp[yielded,ho,hd,hg]
 | some v =>
  rw[Array.getD_eq_getD_getElem?,hg]at hv;simp at hv;simp[yielded,ho,hd,hg,hv]
theorem qY (hS:dQ P S) {F:Fs} {x:Bool} {ops:Array Oper} {i:Nat} {o:Oper} (hi:ops[i]? = some o) {K:Env->Heap->Prop} {E:List PanicEntry->Heap->Prop} (r:Rel D n h0 w0 β e h a w) (hd:∀ d',o.dst=some d'->d' < n)
  (hx:uJ P S F x ops.toList o e h K E) {next:Act->World->Prop} {Q:Exit->Act->World->Prop}
  (hk:∀ e' h' sw a' w',K e' h'->Rel D n h0 w0 sw e' h' a' w'->next a' w')
  (hE:∀ c h' a' w',E c h'->dn h0 w0 h' w'->a'.defers=D->Q (.panic c) a' w'):wpOp P ops Q i next a w:=by
 have run:∀ e1,Rel D n h0 w0 β e1 h a w->exec P S F x o e1 h (λs bx h'=>K (e1.put o.dst s bx) h') E->o.wp P a w next Q:=by
  intro e1 r1 Hs;exact FL hS r1 hd Hs next Q (λs bx h' sw a' w' hK hR=>hk _ _ sw _ _ hK hR) hE
 have skip:∀ e1,Rel D n h0 w0 β e1 h a w->K (e1.put o.dst (.v undef) none) h->next (a.put o.dst undef) w:=by
  intro e1 r1 hK;exact hk _ _ β _ _ hK (r1.put (dn.refl r1.mv.view) o.dst hd rfl)
 have yes:∀ e1,Region.wanted o (yielded ops a.tmps)=true->Rel D n h0 w0 β e1 h a w->exec P S F x o e1 h (λs bx h'=>K (e1.put o.dst s bx) h') E->wpOp P ops Q i next a w:=by
  intro e1 hw r1 Hs;unfold wpOp;simp only[hi,hw,if_true];exact .inl (run e1 r1 Hs)
 have no:∀ e1,Region.wanted o (yielded ops a.tmps)=false->Rel D n h0 w0 β e1 h a w->K (e1.put o.dst (.v undef) none) h->wpOp P ops Q i next a w:=by
  intro e1 hw r1 Hs;unfold wpOp;simp only[hi,hw,Bool.false_eq_true,if_false];exact skip e1 r1 Hs
 unfold uJ guardOf at hx;cases hg:o.guard with
 | none =>
  simp only[hg]at hx;exact yes e (by simp[Region.wanted,hg]) r hx
 | some jw =>
  obtain⟨j,want⟩:=jw;simp only[hg,wq,Array.getElem?_toList]at hx;cases ho:ops[j]? with
  | none =>
   simp only[ho]at hx;exact no e (by simp[Region.wanted,hg,yielded,ho]) r hx
  | some o' =>
   simp only[ho]at hx;cases FN:o'.dst with
   | none =>
    simp only[FN]at hx;exact no e (by simp[Region.wanted,hg,yielded,ho,FN]) r hx
   | some d =>
    simp only[FN]at hx;split at hx
    ·rename_i b hb;have hy:=FM r ho FN hb;rcases AJ hx with ⟨rfl,hx⟩|⟨rfl,hx⟩
     ·cases want with
      | true=>exact yes _ (by simp[Region.wanted,hg,hy]) (r.known hb) hx
      | false=>exact no _ (by simp[Region.wanted,hg,hy]) (r.known hb) hx
     ·cases want with
      | true=>exact no _ (by simp[Region.wanted,hg,hy]) (r.known hb) hx
      | false=>exact yes _ (by simp[Region.wanted,hg,hy]) (r.known hb) hx
    ·rename_i vs hb;exact no e (by simp[Region.wanted,hg,Cg r ho FN hb]) r hx
    ·exact hx.elim
theorem xq (hS:dQ P S) {F:Fs} {ops:Array Oper} (hd:∀ o∈ops.toList,∀ d',o.dst=some d'->d' < n) {K:Env->Heap->Prop} {E:List PanicEntry->Heap->Prop} {Q:Exit->Act->World->Prop}
  (hk:∀ e' h' sw a' w',K e' h'->Rel D n h0 w0 sw e' h' a' w'->Q .normal a' w')
  (hE:∀ c h' a' w',E c h'->dn h0 w0 h' w'->a'.defers=D->Q (.panic c) a' w') :
  ∀(l:List Oper) (k:Nat) (e:Env) (h:Heap) (β:Nat->Nat) (a:Act) (w:World),(∀ j,l[j]? = ops[k+j]?)->Rel D n h0 w0 β e h a w ->
   Dv P S F ops.toList K E l e h->wpOps P ops Q (List.range' k l.length) a w
 | [],k,e,h,β,a,w,_,r,hx=>hk _ _ β _ _ hx r
 | o::l,k,e,h,β,a,w,hl,r,hx=>by
  have h0:ops[k]? = some o:=by simpa using (hl 0).symm
  rw[List.length_cons,List.range'_succ,wpOps_cons];refine qY hS h0 r (hd o (by rw[<-Array.getElem?_toList]at h0;exact List.mem_of_getElem? h0)) hx (λe' h' sw a' w' hK hR=>?_) hE;exact xq hS hd hk hE l (k+1) e' h' sw a' w' (λj=>by have:=hl (j+1);simpa [Nat.add_assoc,Nat.add_comm 1 j]using this) hR hK
def Code.lq (n:Nat):Code->Bool
 | .region _ ops _=>ops.toList.all λo=>match o.dst with|some d=>Nat.blt d n|none=>true
 | .seq a b=>Code.lq n a&&Code.lq n b
 | .cond _ a b=>Code.lq n a&&Code.lq n b
 | .block _ c=>Code.lq n c
 | .loop c=>Code.lq n c
 | .scope c=>Code.lq n c
 | _=>true
theorem tS {n:Nat} {ops:Array Oper} (hx:(ops.toList.all λo=>match o.dst with|some d=>Nat.blt d n|none=>true)=true):∀ o∈ops.toList,∀ d',o.dst=some d'->d' < n:=by
 intro o ho d hd;have:=List.all_eq_true.1 hx o ho;simp only[hd]at this;exact Nat.le_of_ble_eq_true this
def RK (P:Program) (S:oD) (F:Fs) (n:Nat) (id:Nat) (ops:Array Oper):Prop :=
 ∀(D:List Deferred) (K:Env->Heap->Prop) (E:List PanicEntry->Heap->Prop) (Q:Exit->Act->World->Prop) (h0:Heap) (w0:World) (β:Nat->Nat) (e:Env) (h:Heap) (a:Act) (w:World),
  drawn P S F id ops.toList K E e h->Rel D n h0 w0 β e h a w->(∀ e' h' sw a' w',K e' h'->Rel D n h0 w0 sw e' h' a' w'->Q .normal a' w') ->
  (∀ c h' a' w',E c h'->dn h0 w0 h' w'->a'.defers=D->Q (.panic c) a' w')->wpAny P .any ops Q ops.size (Array.replicate ops.size false) a w
def Code.kT (P:Program) (S:oD) (F:Fs) (n:Nat):Code->Prop
 | .region id ops true=>RK P S F n id ops
 | .seq a b=>Code.kT P S F n a/\Code.kT P S F n b
 | .cond _ a b=>Code.kT P S F n a/\Code.kT P S F n b
 | .block _ c=>Code.kT P S F n c
 | .loop c=>Code.kT P S F n c
 | .scope c=>Code.kT P S F n c
 | _=>True
def U3 (D:List Deferred) (n:Nat) (h0:Heap) (w0:World) (K:Ex->Env->Heap->Prop):Exit->Act->World->Prop
 | .normal,a,w=>∃ β e h,K .normal e h/\Rel D n h0 w0 β e h a w
 | .exit i,a,w=>∃ β e h,K (.exit i) e h/\Rel D n h0 w0 β e h a w
 | .ret,a,w=>∃ β e h,K .ret e h/\Rel D n h0 w0 β e h a w
 | .panic c,a,w=>∃ e h,K (.lY c) e h/\dn h0 w0 h w/\a.defers=D
 | .goto _,_,_=>False
 | .outgrown,_,_=>False
theorem yG (f:Nat->Slot) (t:Nat):∀ ls:List Nat,we ls (ls.map f) t=f t\/we ls (ls.map f) t=.x
 | []=>.inr rfl
 | i::ls=>by
  simp only[List.map_cons,we];split
  ·rename_i hh;subst hh;exact .inl rfl
  ·exact yG f t ls
theorem sA (f:Nat->Option (List Value)) (t:Nat):∀ bs:List Nat,Hj bs (bs.map f) t=if bs.contains t then f t else none
 | []=>rfl
 | i::bs=>by
  simp only[List.map_cons,Hj];by_cases hh:t=i
  ·subst hh;simp
  ·rw[if_neg hh,sA f t bs];simp[hh]
theorem Rel.narrow (r:Rel D n h0 w0 β e h a w) (ls bs:List Nat):Rel D n h0 w0 β (yu ls bs (ls.map e.s) (bs.map e.b)) h a w where
 size:=r.size
 yx:=r.yx
 slot t:=by
  have hb:∀ u,(yu ls bs (ls.map e.s) (bs.map e.b)).b u=if bs.contains u then e.b u else none:=λu=>sA e.b u bs
  show mR β _ ((we ls (ls.map e.s) t).clean bs) _;have r0:=r.slot t;rcases yG e.s t ls with hh|hh
  ·rw[hh];revert r0
   cases e.s t with
   | v x=>exact id
   | x=>exact id
   | l u off =>
    intro r0;simp only[Slot.clean];split
    ·rename_i hc;exact⟨r0.1,by rw[hb,if_pos hc];exact r0.2⟩
    ·trivial
   | r u k =>
    intro r0;simp only[Slot.clean];split
    ·rename_i hc;exact⟨r0.1,by rw[hb,if_pos hc];exact r0.2⟩
    ·trivial
  ·rw[hh];trivial
 box t cs hb:=by
  have:(yu ls bs (ls.map e.s) (bs.map e.b)).b t=if bs.contains t then e.b t else none:=sA e.b t bs
  rw[this]at hb;split at hb
  ·exact r.box t cs hb
  ·cases hb
 inj t u ht hu Ix:=by
  have hb:∀ u,(yu ls bs (ls.map e.s) (bs.map e.b)).b u=if bs.contains u then e.b u else none:=λu=>sA e.b u bs
  rw[hb]at ht hu;refine r.inj t u ?_ ?_ Ix
  ·split at ht
   ·exact ht
   ·cases ht
  ·split at hu
   ·exact hu
   ·cases hu
 mv:=r.mv
theorem Ki {c:Code} {Q:Exit->Act->World->Prop} (I:Nat->Act->World->Prop) (k0:Nat) (aaM:I k0 a w)
  (round:∀ k a w,I k a w->c.wp P (Exit.then (λa' w'=>∃ m,m < k/\I m a' w') Q) a w):(Code.loop c).wp P Q a w:=by
 intro b k cs;have key:∀ i a w,I i a w->∃ e a' w',Q e a' w'/\Arrives P (lone (b.at a (.code c::.inLoop c::k)) cs w) b k cs e a' w':=by
  intro i;induction i using Nat.strongRecOn with
  | _ i ih =>
   intro a w hI;obtain⟨e,IC,ID,hq,qX⟩:=round i a w hI b (.inLoop c::k) cs;cases e with
   | normal =>
    obtain⟨m,gE,U4⟩:=hq;obtain⟨aaN,aaO,aaP,U5,Of⟩:=ih m gE IC ID U4;exact⟨aaN,aaO,aaP,U5,.of_steps (Steps.trans qX (.one step_inLoop)) Of⟩
   | exit id=>exact⟨_,IC,ID,hq,.pass (x:=.inLoop c) rfl (λ_ _=>.inl (by simp)) qX⟩
   | goto l=>exact⟨_,IC,ID,hq,.pass (x:=.inLoop c) rfl (λ_ _=>.inl (by simp)) qX⟩
   | ret=>exact⟨_,IC,ID,hq,.pass (x:=.inLoop c) rfl (λ_ _=>.inl (by simp)) qX⟩
   | panic ch=>exact⟨_,IC,ID,hq,.pass (x:=.inLoop c) rfl (λ_ _=>.inl (by simp)) qX⟩
   | outgrown=>exact⟨_,IC,ID,hq,.pass (x:=.inLoop c) rfl (λ_ _=>.inl (by simp)) qX⟩
 obtain⟨e,a',w',hq,qX⟩:=key _ a w aaM;exact⟨e,a',w',hq,.of_steps (.one step_loop) qX⟩
theorem sB (hS:dQ P S) (F:Fs):∀(c:Code) (K:Ex->Env->Heap->Prop) (β:Nat->Nat) (e:Env) (h:Heap) (a:Act) (w:World),
  Code.lq n c=true->Code.kT P S F n c->den P S F c K e h->Rel D n h0 w0 β e h a w->c.wp P (U3 D n h0 w0 K) a w:=by
 intro c;induction c with
 | skip=>intro K β e h a w _ _ hx r;exact wp_skip ⟨β,e,h,hx,r⟩
 | label l=>intro K β e h a w _ _ hx r;exact wp_label ⟨β,e,h,hx,r⟩
 | exit i=>intro K β e h a w _ _ hx r;exact wp_exit ⟨β,e,h,hx,r⟩
 | ret=>intro K β e h a w _ _ hx r;exact wp_ret ⟨β,e,h,hx,r⟩
 | region id ops dr =>
  intro K β e h a w hd hp hx r;cases dr with
  | false =>
   simp only[den]at hx;refine wp_region ?_;have:=xq (Q:=U3 D n h0 w0 K) hS (tS hd) (λe' h' sw a' w' hK hR=>⟨sw,e',h',hK,hR⟩) (λc h' a' w' hE hM hD=>⟨e,h',hE,hM,hD⟩) ops.toList 0 e h β a w (λj=>by simp) r hx;rw[List.range_eq_range'];simpa using this
  | true =>
   simp only[den]at hx;refine wp_region_any hS.mix ?_;exact hp _ _ _ _ h0 w0 β e h a _ hx ⟨r.size,r.yx,r.slot,r.box,r.inj,⟨r.mv.view,r.mv.aJ,r.mv.x9,r.mv.size,r.mv.fz,r.mv.out⟩⟩ (λe' h' sw a' w' hK hR=>⟨sw,e',h',hK,hR⟩) (λc h' a' w' hE hM hD=>⟨e,h',hE,hM,hD⟩)
 | seq c1 c2 ih1 ih2 =>
  intro K β e h a w hd hp hx r;simp only[Code.lq,Bool.and_eq_true]at hd;refine wp_seq (wp_mono (ih1 _ β e h a w hd.1 hp.1 hx r) ?_);intro ex a' w' dx;cases ex with
  | normal=>obtain⟨sw,e',h',hK,hR⟩:=dx;exact ih2 K sw e' h' a' w' hd.2 hp.2 hK hR
  | exit i=>exact dx
  | ret=>exact dx
  | panic ch=>exact dx
  | goto l=>exact dx
  | outgrown=>exact dx
 | cond c x y ihx ihy =>
  intro K β e h a w hd hp hx r;simp only[Code.lq,Bool.and_eq_true]at hd;simp only[den]at hx;split at hx
  ·rename_i t ht;refine wp_cond (r.eval ht) ?_;rcases AJ hx with ⟨rfl,hx⟩|⟨rfl,hx⟩
   ·exact ihx K β e h a w hd.1 hp.1 hx r
   ·exact ihy K β e h a w hd.2 hp.2 hx r
  ·exact hx.elim
 | block id c ih =>
  intro K β e h a w hd hp hx r;refine wp_block (wp_mono (ih _ β e h a w hd hp hx r) ?_);intro ex a' w' dx;cases ex with
  | normal=>exact dx
  | exit i =>
   obtain⟨sw,e',h',hK,hR⟩:=dx;simp only[Exit.inBlock];by_cases hi:i=id
   ·rw[if_pos hi];have:Nat.beq i id=true:=by rw[hi];exact Nat.beq_refl id
    simp only[this]at hK;exact⟨sw,e',h',hK,hR⟩
   ·rw[if_neg hi];have:Nat.beq i id=false:=by
     cases hb:Nat.beq i id with
     | true=>exact absurd (Nat.eq_of_beq_eq_true hb) hi
     | false=>rfl
    simp only[this]at hK;exact⟨sw,e',h',hK,hR⟩
  | ret=>exact dx
  | panic ch=>exact dx
  | goto l=>exact dx
  | outgrown=>exact dx
 | loop c ih =>
  intro K β e h a w hd hp hx r;simp only[den]at hx;rw[J4]at hx;unfold Lp_ at hx;obtain⟨ls,bs,Inv,⟨k,hk⟩,gM⟩:=hx;refine Ki (λk a w=>∃ β e h,Inv k (ls.map e.s) (bs.map e.b) h/\Rel D n h0 w0 β e h a w) k ⟨β,e,h,hk,r⟩ ?_;rintro k1 a1 w1 ⟨β1,e1,h1,hI,r1⟩;refine wp_mono (ih _ β1 _ h1 a1 w1 hd hp (gM k1 _ _ h1 hI) (r1.narrow ls bs)) ?_;intro ex a' w' dx;cases ex with
  | normal=>obtain⟨sw,e',h',⟨m,hm,hI'⟩,hR⟩:=dx;exact⟨m,hm,sw,e',h',hI',hR⟩
  | exit i=>exact dx
  | ret=>exact dx
  | panic ch=>exact dx
  | goto l=>exact dx
  | outgrown=>exact dx
 | scope c ih =>
  intro K β e h a w hd hp hx r;refine wp_scope_straight (wp_mono (ih K β e h a w hd hp hx r) ?_);intro ex a' w' dx;cases ex with
  | goto l=>exact dx.elim
  | _=>exact dx
 | goto l=>intro K β e h a w _ _ hx r;exact hx.elim
 | refuse y=>intro K β e h a w _ _ hx r;exact hx.elim
 | rangeFunc f ps as b _ _=>intro K β e h a w _ _ hx r;exact hx.elim
def lu (args:List Value):Env:=⟨λt=>match args[t]? with|some v=>.v v|none=>.v undef,λ_=>none⟩
def ic (S:oD) (e:Env) (h:Heap):List ResultVar->(List Value->Prop)->Prop
 | [],K=>K []
 | .tmp t::r,K=>match e.s t with
  | .v v=>ic S e h r λvs=>K (v::vs)
  | _=>False
 | .cell t ty::r,K=>match S.ty.find ty with
  | some ti=>load ti (e.s t) e h λs _ _=>match s with
   | .v v=>ic S e h r λvs=>K (v::vs)
   | _=>False
  | none=>False
def lM (K:Value->Prop):List Value->Prop
 | [v]=>K v
 | vs=>K (.tuple ⟨vs⟩)
def Fin (S:oD) (res:List ResultVar) (R:Out->Heap->Prop):Ex->Env->Heap->Prop
 | .normal,e,h=>ic S e h res λvs=>lM (λv=>R (.ret v) h) vs
 | .ret,e,h=>ic S e h res λvs=>lM (λv=>R (.ret v) h) vs
 | .exit _,_,_=>False
 | .lY c,_,h=>R (.lY c) h
theorem wu {fn:Func} {args:List Value} (hn:args.length<=fn.ntmps) (hv:∀ b o,h b=some o->w.heap[b]? = some o) :
  Rel [] fn.ntmps h w (λ_=>0) (lu args) h {tmps:=args.toArray++Array.replicate (fn.ntmps-args.toArray.size) undef,defers:=[]} w where
 size:=by simp;omega
 yx:=rfl
 slot t:=by
  simp only[lu];cases ht:args[t]? with
  | some v =>
   obtain⟨gE,hg⟩:=List.getElem?_eq_some_iff.1 ht;show _=v;simp[Array.getD_eq_getD_getElem?,Array.getElem?_append,gE,hg]
  | none =>
   have Ht:args.length<=t:=by simpa using ht
   show _=undef;rw[Array.getD_eq_getD_getElem?,Array.getElem?_append_right (by simpa using Ht),Array.getElem?_replicate];split<;>rfl
 box t cs hb:=by simp[lu]at hb
 inj t u ht:=by simp[lu]at ht
 mv:=dn.refl hv
theorem nZ (hS:dQ P S) (r:Rel D n h0 w0 β e h a w):∀(res:List ResultVar) (K:List Value->Prop),ic S e h res K ->
  ∃ vs,K vs/\(res.mapM (m:=Sem) fun
   | .tmp t=>pure (a.tmps.getD t undef)
   | .cell x t=>do loadVar t (<-asAddr (a.tmps.getD x undef))).run P w=.ok vs w
 | [],K,hx=>⟨[],hx,rfl⟩
 | .tmp t::res,K,hx=>by
  simp only[ic]at hx;split at hx
  ·rename_i v hv;obtain⟨vs,h1,h2⟩:=nZ hS r res _ hx;refine⟨v::vs,h1,?_⟩;have hs:=r.slot t;rw[hv]at hs;rw[List.mapM_cons];simp only[Sem.run_bind,Sem.run_pure,Result.andThen_ok,h2];rw[show a.tmps.getD t undef=v from hs]
  ·exact hx.elim
 | .cell t ty::res,K,hx=>by
  simp only[ic]at hx;split at hx
  ·rename_i ti dj;obtain⟨ad,v,g1,g2,g3⟩:=AB (x:=.tmp t) hS r dj hx;obtain⟨vs,h1,h2⟩:=nZ hS r res _ g3;refine⟨v::vs,h1,?_⟩;have g1:a.tmps.getD t undef=.pointer (some ad):=g1;rw[List.mapM_cons];have ga:(asAddr (.pointer (some ad))).run P w=.ok ad w:=rfl;simp only[Sem.run_bind,g1,ga,Sem.run_pure,Result.andThen_ok,g2,h2]
  ·exact hx.elim
theorem od (hS:dQ P S) (r:Rel D n h0 w0 β e h a w) {fn:Func} {R:Out->Heap->Prop} (hx:ic S e h fn.results.toList λvs=>lM (λv=>R (.ret v) h) vs) :
  ∃ v,(results fn a.tmps).run P w=.ok v w/\R (.ret v) h:=by
 obtain⟨vs,h1,h2⟩:=nZ hS r _ _ hx;have fC:(results fn a.tmps).run P w=.ok (if h:vs.toArray.size=1 then vs.toArray[0]else .tuple vs.toArray) w:=by
  unfold results;rw[Array.mapM_eq_mapM_toList];simp only[Sem.run_bind,Sem.run_map,Sem.run_pure];exact(congrArg (λr:Result (List Value)=>(r.andThen λa w'=>Result.ok a.toArray w').andThen λa w'=>Result.ok (if h:a.size=1 then a[0]else Value.tuple a) w') h2).trans rfl
 refine⟨_,fC,?_⟩;match vs,h1 with
 | [],h1=>simpa [lM]using h1
 | [v],h1=>simpa [lM]using h1
 | u::v::r,h1=>simpa [lM]using h1
theorem Ci (hS:dQ P S) (F:Fs) {f:FuncId} {fn:Func} {c:Code} {args:List Value} {R:Out->Heap->Prop} (hf:P.funcs[f]? = some fn) (hb:fn.body=some c) (hn:args.length<=fn.ntmps)
  (hd:Code.lq fn.ntmps c=true) (hp:Code.kT P S F fn.ntmps c) (hx:den P S F c (Fin S fn.results.toList R) (lu args) h):cZ P f args h R:=by
 intro w hv;refine calls_of_wp hf hb (wp_mono (sB hS F c _ _ _ _ _ _ hd hp hx (wu hn hv)) ?_);intro ex a' w' dx;cases ex with
 | normal=>obtain⟨β,e,h',hK,hR⟩:=dx;obtain⟨v,h1,h2⟩:=od hS hR hK;exact⟨hR.yx,v,h1,h',hR.mv,h2⟩
 | ret=>obtain⟨β,e,h',hK,hR⟩:=dx;obtain⟨v,h1,h2⟩:=od hS hR hK;exact⟨hR.yx,v,h1,h',hR.mv,h2⟩
 | exit i=>obtain⟨β,e,h',hK,hR⟩:=dx;exact hK.elim
 | panic ch=>obtain⟨e,h',hK,hM,hD⟩:=dx;exact⟨hD,h',hM,hK⟩
 | goto l=>exact dx.elim
 | outgrown=>exact dx.elim
end Go.Vc
