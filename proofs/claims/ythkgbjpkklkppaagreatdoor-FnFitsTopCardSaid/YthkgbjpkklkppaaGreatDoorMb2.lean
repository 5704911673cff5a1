/- Lemmas. -/
import Derived.Below
import Derived.Laws.StructEq
import Derived.Laws.Cover3
import Derived.Defers
import Derived.Recover
import Derived.Test.YthkgbjpkklkppaaGreatDoorProg
import Derived.Test.YthkgbjpkklkppaaGreatDoorMb1
set_option linter.unusedSimpArgs false
set_option linter.unusedVariables false
namespace Go.Vc
open Go.RowKit
set_option linter.constructorNameAsVariable false
def bq (P:Program) (f:FuncId) (args:List Value) (h:Heap) (R:Value->Heap->Prop):Prop :=
 eY P f args h λo a=>match o with
  | .ret v=>R v a
  | .nT _=>False
def Pure (P:Program) (f:FuncId) (args:List Value) (h:Heap) (x:Value):Prop:=bq P f args h λv a=>v=x/\a=h
variable {P:Program} {f:FuncId} {args:List Value} {h:Heap} {K:Value->Heap->Prop} {E:List PanicEntry->Heap->Prop} {R:Value->Heap->Prop} {w:World}
theorem aB (c:bq P f args h R) (d:∀ v a,R v a->K v a):Call P f args h K E:=by
 rw[sU];unfold xM;refine eY.mono c λo a b=>?_;cases o with
 | ret v=>exact d v a b
 | nT e=>exact b.elim
theorem cP (c:bq P f args h R) (d:∀ v a,R v a->h.le a/\K v a):gD P f args h K E:=by
 rw[qC];unfold sV;refine eY.mono c λo a b=>?_;cases o with
 | ret v=>exact d v a b
 | nT e=>exact b.elim
theorem au {x:Value} (a:Pure P f args h x) (b:K x h):Call P f args h K E:=aB a (by rintro v c ⟨rfl,rfl⟩;exact b)
theorem aP {x:Value} (a:Pure P f args h x) (b:K x h):gD P f args h K E:=cP a (by rintro v c ⟨rfl,rfl⟩;exact⟨Heap.le_refl _,b⟩)
theorem bq.mono {b:Value->Heap->Prop} (d:bq P f args h R) (e:∀ v a,R v a->b v a):bq P f args h b :=
 eY.mono d λo a c=>by
  cases o with
  | ret v=>exact e v a c
  | nT g=>exact c.elim
theorem bE {S:lD} (c:dJ P S) {a:Func} (d:P.funcs[f]? = some a) (F:Fs) {k:Nat} (g:iW F a k=true) (e:args.length=k) (i:Goal P S F a args h λo b=>match o with
  | .ret v=>R v b
  | .nT _=>False):bq P f args h R:=by
 subst e;exact calls c d F g i
theorem eY.shrink {R d:Out->Heap->Prop} (t:eY P f args h R) (v:∀ o c,R o c->∃ a:Heap,a.le c/\d o a):eY P f args h d:=by
 intro w y;refine(t w y).mono ?_;rintro q z ⟨c,m,g⟩;have p:∀ o,R o c->∃ a:Heap,cQ h w a z/\d o a:=by
  intro o u;obtain⟨a,j,s⟩:=v o c u;refine⟨a,⟨λb x e=>m.view b x (j b x e),m.aK,λb e=>m.sB b ?_,m.size,m.fz,m.out⟩,s⟩;cases i:a b with
  | none=>exact absurd i e
  | some x=>rw[j b x i];simp
 cases q with
 | returned B=>exact p _ g
 | panicked A=>exact p _ g
 | outgrown=>exact⟨c,m,g⟩
def PD (h c:Heap):Prop:=∀(b:Nat) (a:Array Value) (t:TypeId) (z:Nat × Nat),c b=some (Obj.cells a t z)->z=(0,0)\/h b=some (Obj.cells a t z)
theorem eY.fz {R:Out->Heap->Prop} (t:eY P f args h R):eY P f args h λo a=>R o a/\PD h a:=by
 intro w j;refine(t w j).mono ?_;rintro s y ⟨a,m,d⟩;have p:PD h a:=λb q u z e=>by
  rcases m.fz b q u z (m.view b _ e)with c|c
  ·exact .inl c
  rcases m.sB b (by rw[e];simp)with g|g
  ·cases i:h b with
   | none=>exact absurd i g
   | some o =>
    have:=j b o i;rw[c]at this;exact .inr this.symm
  have:=ec c;omega
 refine⟨a,m,?_⟩;cases s with
 | returned x=>exact⟨d,p⟩
 | panicked v=>exact⟨d,p⟩
 | outgrown=>exact d
theorem bq.fz (c:bq P f args h R):bq P f args h λv a=>R v a/\PD h a:=by
 refine eY.mono (eY.fz c) λo a b=>?_;cases o with
 | ret v=>exact b
 | nT d=>exact b.1.elim
theorem gF {S:lD} (c:dJ P S) {a:Func} (d:P.funcs[f]? = some a) (F:Fs) {k:Nat} (g:iW F a k=true) {x:Value} (e:args.length=k) (i:Goal P S F a args h λo b=>match o with
  | .ret v=>v=x/\b=h
  | .nT _=>False):Pure P f args h x:=by
 subst e;exact calls c d F g i
theorem Gz {S:lD} (d:dJ P S) {a:Func} (e:P.funcs[f]? = some a) (F:Fs) {k:Nat} (i:iW F a k=true) {x:Value} (g:args.length=k) (j:Goal P S F a args h λo c=>match o with
  | .ret v=>v=x/\h.le c
  | .nT _=>False):Pure P f args h x:=by
 subst g;unfold Pure bq;refine(calls d e F i j).shrink λo c b=>?_;cases o with
 | ret v=>exact⟨h,b.2,b.1,rfl⟩
 | nT m=>exact b.elim
theorem aC {p:Prop} {_:Decidable p} {t f:Prop} (b:p->t) (a:¬p->f):@Bool.rec (λ_=>Prop) f t (decide p):=by
 by_cases h:p
 ·rw[decide_eq_true h];exact b h
 rw[decide_eq_false h];exact a h
theorem aX {p:Prop} {_:Decidable p} {t f:Prop} (b:¬p->t) (a:p->f):@Bool.rec (λ_=>Prop) f t (!decide p):=by
 by_cases h:p
 ·rw[decide_eq_true h];exact a h
 rw[decide_eq_false h];exact b h
theorem fh {b:Bool} {t f:Prop} (c:b=true->t) (a:b=false->f):@Bool.rec (λ_=>Prop) f t b:=by
 cases b
 ·exact a rfl
 exact c rfl
theorem dG {b:Bool} {t f:Prop} (c:b=false->t) (a:b=true->f):@Bool.rec (λ_=>Prop) f t (!b):=by
 cases b
 ·exact c rfl
 exact a rfl
theorem wrap_i64 {x:Int} (h0 : -9223372036854775808<=x) (a:x<=9223372036854775807):IntKind.i64.wrap x=x:=by
 simp[IntKind.wrap,IntKind.bits,IntKind.signed];omega
theorem tA {x:Int} {K:Int->Prop} (h0 : -9223372036854775808<=x) (a:x<=9223372036854775807) (b:K x):Ar .i64 x K:=by
 rw[fX,wrap_i64 h0 a];exact b
theorem zW {k:IntKind} {x:Int} {K:Int->Prop} (a:K (k.wrap x)):Ar k x K:=fX.2 a
theorem ob {p q:Prop} (a:p) (b:q):Ob p q:=cC.2 ⟨a,b⟩
theorem av {x:Int} {K:Int->Prop} (b:K x) (h0 : -9223372036854775808<=x:=by omega) (a:x<=9223372036854775807:=by omega):Ar .i64 x K:=tA h0 a b
theorem ay {p q:Prop} (b:q) (a:p:=by omega):Ob p q:=ob a b
theorem ld {b off:Nat} {v:Value} {K:Value->Prop} (c:rd h b off=some v) (a:K v):Ld h b off K:=by rw[sW];unfold Ji;exact⟨v,c,a⟩
theorem dZ {b off n:Nat} {vs:List Value} {K:List Value->Prop} (c:dP h b off n=some vs) (a:K vs):Pq h b off n K:=by rw[oY];unfold zC;exact⟨vs,c,a⟩
theorem ptr {b off:Nat} {K:Nat->Nat->Prop} (a:K b off):Ptr (some ⟨b,off,none⟩) K:=by rw[nu];unfold xN;exact⟨b,off,rfl,a⟩
theorem aL {p:Option Addr} {b off:Nat} {K:Nat->Nat->Prop} (c:p=some ⟨b,off,none⟩) (a:K b off):Ptr p K:=by rw[nu];unfold xN;exact⟨b,off,c,a⟩
theorem st {b off:Nat} {vs:List Value} {K:Heap->Prop} {cs:List Value} {t:TypeId} (a:h b=some (.cells cs.toArray t (0,0))) (d:off+vs.length<=cs.length) (c:K (h.set b (.cells (eH cs off vs).toArray t (0,0)))):St h b off vs K:=by
 rw[zE];unfold LU;exact⟨cs.toArray,t,a,by simpa using d,c⟩
theorem new {cs:List Value} {t:TypeId} {K:Nat->Heap->Prop} (a:∀ b,h b=none->K b (h.set b (.cells cs.toArray t))):zB h cs t K:=by rw[lE];unfold vU;exact a
theorem lp {g:(Ex->Env->Heap->Prop)->Env->Heap->Prop} {K:Ex->Env->Heap->Prop} {e:Env} (d a:List Nat) (Inv:Nat->List Slot->List (Option (List Value))->Heap->Prop) (n:Nat) (h0:Inv n (d.map e.s) (a.map e.b) h)
  (j:∀ n vs cs h,Inv n vs cs h->g (λx e' b=>match x with | .normal=>∃ m,m < n/\Inv m (d.map e'.s) (a.map e'.b) b | .exit i=>K (.exit i) e' b | .ret=>K .ret e' b | .nT c=>K (.nT c) e' b) (sX d a vs cs) h):Lp g K e h:=by
 rw[DA];unfold OD;exact⟨d,a,Inv,⟨n,h0⟩,j⟩
theorem eF {j:Type} {p:(Ex->Env->Heap->Prop)->Env->Heap->Prop} {K:Ex->Env->Heap->Prop} {e:Env} (d b:List Nat) (St:j->Prop) (m:j->Nat) (f:j->List Slot × List (Option (List Value)) × Heap) (g:j)
  (h0:St g) (y:f g=(d.map e.s,b.map e.b,h))
  (z:∀ s,St s->p (λx e' a=>match x with | .normal=>∃ k,k < m s/\∃ o,St o/\m o=k/\f o=(d.map e'.s,b.map e'.b,a) | .exit i=>K (.exit i) e' a | .ret=>K .ret e' a | .nT c=>K (.nT c) e' a) (sX d b (f s).1 (f s).2.1) (f s).2.2):Lp p K e h:=by
 refine lp d b (λn t q a=>∃ s,St s/\m s=n/\f s=(t,q,a)) (m g) ⟨g,h0,rfl,y⟩ ?_;rintro n t q a ⟨s,u,rfl,v⟩;have:=z s u;rw[v]at this;exact this
theorem cL {b:Type} {St:b->Prop} {m:b->Nat} {f:b->List Slot × List (Option (List Value)) × Heap} {t:List Slot × List (Option (List Value)) × Heap} {n:Nat} (a:b) (c:St a) (d:m a < n) (e:f a=t):∃ k,k < n/\∃ a,St a/\m a=k/\f a=t:=⟨_,d,a,c,rfl,e⟩
theorem Iq {o:Oper} {e:Env} {b:Value->Heap->Prop} {v:Value} (g:∀ x∈o.op.operands,∃ v,e.get x=.v v)
  (d:∀ a:Operand->Value,(∀ x∈o.op.operands,e.get x=.v (a x))->∀ w:World,(execOp a o).run P w=.ok (.value v) w) (c:b v h):Raw P o e h b:=by
 rw[jS];unfold uH;exact⟨g,λa j w i=>⟨v,w,h,.inl (d a j w),cQ.refl i,c⟩⟩
theorem eJ {o:Option Nat} {x:Operand} {j d:TypeId} {ok:Bool} {ty:TypeId} {u:String} {m:Array Edge} {p:Option (Nat × Bool)} {e:Env} {b:Value->Heap->Prop} {c r:Value}
  (g:e.get x=.v c) (s:∀ w:World,(Instr.typeAssert c j d ok).run P w=.ok r w) (q:b r h):Raw P ⟨o,.typeAssert x j d ok,ty,u,m,p⟩ e h b:=by
 refine Iq (v:=r) ?_ ?_ q
 ·intro y i;simp only[Op.operands,List.mem_toArray,List.mem_cons,List.not_mem_nil,or_false]at i;subst i;exact⟨c,g⟩
 intro z t w;have a:=t x (by simp[Op.operands]);rw[g]at a;injection a with a
 simp only[execOp,<-a];simp only[Sem.run_bind,s,Result.andThen_ok,Sem.run_pure]
theorem de {s:Option Nat} {g:BinOp} {t u:TypeId} {x y:Operand} {ty:TypeId} {D:String} {q:Array Edge} {z:Option (Nat × Bool)} {e:Env} {i:Value->Heap->Prop} {a b r:Value}
  (j:e.get x=.v a) (m:e.get y=.v b) (A:∀ w:World,(eqGuard g t x y a b).run P w=.ok () w) (B:∀ w:World,(Go.binOp g t a b).run P w=.ok r w) (C:i r h):Raw P ⟨s,.binOp g t x y u,ty,D,q,z⟩ e h i:=by
 refine Iq (v:=r) ?_ ?_ C
 ·intro F o;simp only[Op.operands,List.mem_toArray,List.mem_cons,List.not_mem_nil,or_false]at o;rcases o with rfl|rfl
  ·exact⟨a,j⟩
  exact⟨b,m⟩
 intro G p w;have c:=p x (by simp[Op.operands]);have d:=p y (by simp[Op.operands]);rw[j]at c;rw[m]at d;injection c with c
 injection d with d
 simp only[execOp,<-c,<-d];simp only[Sem.run_bind,A,B,Result.andThen_ok,Sem.run_pure]
theorem below_of_pure {x:Value} (d:∀ h,(∀ b o,h b=some o->(w.heap[b]? = some o))->(∀ b,h b=w.heap[b]?)->Pure P f args h x):Calls P f args.toArray w λe w'=>e=.returned x/\Below w.heap.size w w':=by
 refine(d (λb=>w.heap[b]?) (λ_ _ h=>h) (λ_=>rfl) w (λ_ _ h=>h)).mono ?_;rintro e w' ⟨i,m,a⟩;cases e with
 | returned v =>
  obtain⟨rfl,rfl⟩:=a;refine⟨rfl,m.out.1,m.out.2.1,m.out.2.2,m.size,λb c=>?_⟩;rw[Array.getElem?_eq_getElem c];exact m.view b _ (Array.getElem?_eq_getElem c)
 | panicked g=>exact a.elim
 | outgrown=>exact a.elim
theorem wz {b off:Nat} {cs:Array Value} {t:TypeId} {fz:Nat × Nat}:rd (h.set b (.cells cs t fz)) b off=cs[off]?:=by simp[rd,Heap.set]
theorem tB {b c off:Nat} {o:Obj} (a:b≠c):rd (h.set c o) b off=rd h b off:=by simp[rd,Heap.set,a]
def eB:Nat->List (Int × Value)->List MapEntry
 | _,[]=>[]
 | n,(k,v)::r=>⟨.int .i64 k,v,n⟩::eB (n+1) r
def mB (l:List (Int × Value)):Obj:=.map (eB 0 l).toArray l.length
def iy (k:Int):List (Int × Value)->Nat->Option (Nat × Value)
 | [],_=>none
 | (j,v)::r,i=>if k=j then some (i,v)else iy k r (i+1)
theorem lP (k:Int):∀(l:List (Int × Value)) (n i:Nat),Instr.findNow (.int .i64) (.int .i64 k) (eB n l) i=some (iy k l i)
 | [],n,i=>rfl
 | (j,v)::r,n,i=>by
  rw[eB,Instr.findNow,iy];by_cases h:k=j
  ·subst h;simp[Instr.sameNow]
  have:(k==j)=false:=by simp[h]
  simp[Instr.sameNow,this,h,lP k r]
theorem od (k:Int) (v:Value):∀(l:List (Int × Value)) (n:Nat),eB n (l++[(k,v)])=eB n l++[⟨.int .i64 k,v,n+l.length⟩]
 | [],n=>rfl
 | (j,x)::r,n=>by
  simp only[List.cons_append,eB,od k v r,List.length_cons];rw[show n+1+r.length=n+(r.length+1)by omega]
theorem tC {h:Heap} {w:World} (c:∀ b o,h b=some o->w.heap[b]? = some o):h w.heap.size=none:=by
 cases a:h w.heap.size with
 | none=>rfl
 | some o=>have:=ec (c _ _ a);omega
theorem set_set (h:Heap) (b:Nat) (o a:Obj):(h.set b o).set b a=h.set b a:=by
 funext c;simp only[Heap.set];split<;>rfl
theorem run_checkKey {P:Program} {a:TypeId} (b:∀ w:World,(underlying a).run P w=.ok (.int .i64) w) (n:Int) (q:Bool) (w:World):(Instr.checkKey q 10000 a (.int .i64 n)).run P w=.ok () w:=by
 have g:∀ k,(Instr.checkKey q (k+1) a (.int .i64 n)).run P w=.ok () w:=by
  intro k;simp only[Instr.checkKey,Sem.run_bind,b,Result.andThen_ok];rfl
 exact g 9999
variable {P:Program} {h:Heap} {e:Env} {Kr:Value->Heap->Prop} {dst:Option Nat} {ty t kt et:TypeId} {pos:String} {af:Array Edge} {g:Option (Nat × Bool)} {m k x:Operand} {b:Nat} {n:Int} {l:List (Int × Value)} {v:Value}
theorem JE (c:∀ b,h b=none->Kr (.map (some b)) (h.set b (mB []))):Raw P ⟨dst,.makeMap t none,ty,pos,af,g⟩ e h Kr:=by
 rw[jS];unfold uH;refine⟨λy d=>by simp[Op.operands]at d,λj i w a=>?_⟩;refine⟨.map (some w.heap.size),_,_,.inl ?_,cQ.push a _,c _ (tC a)⟩;simp only[execOp,Instr.makeMap,Option.map_none,Sem.run_bind,run_newObj,Sem.run_pure,Result.andThen_ok];rfl
theorem GA (u:e.get m=.v (.map (some b))) (s:e.get k=.v (.int .i64 n)) (A:e.get x=.v v)
  (J:∀ w:World,(underlying t).run P w=.ok (.map kt et) w) (p:∀ w:World,(underlying kt).run P w=.ok (.int .i64) w) (M:iy n l 0=none)
  (L:Kr undef (h.set b (mB (l++[(n,v)])))):Raw P ⟨dst,.insert t m k x,ty,pos,af,g⟩ e (h.set b (mB l)) Kr:=by
 rw[jS];unfold uH;refine⟨?_,λQ j w y=>?_⟩
 ·intro N B;simp only[Op.operands,List.mem_toArray,List.mem_cons,List.not_mem_nil,or_false]at B;rcases B with rfl|rfl|rfl
  ·exact⟨_,u⟩
  ·exact⟨_,s⟩
  exact⟨_,A⟩
 have a:=j m (by simp[Op.operands]);have c:=j k (by simp[Op.operands]);have d:=j x (by simp[Op.operands]);rw[u]at a;rw[s]at c;rw[A]at d;injection a with a
 injection c with c
 injection d with d
 have q:(h.set b (mB l)) b=some (mB l):=by simp[Heap.set]
 have z:=y _ _ q;have C:=cQ.DE y q (mB (l++[(n,v)])) (w':={w with heap:=w.heap.setIfInBounds b (mB (l++[(n,v)]))}) rfl ⟨rfl,rfl,rfl⟩;rw[set_set]at C;refine⟨undef,_,_,.inr ⟨?_,rfl⟩,C,L⟩;have D:∀ w:World,(Instr.checkKey false 10000 kt (.int .i64 n)).run P w=.ok () w:=by
  exact λw=>run_checkKey p n _ w
 have F:∀ w:World,(Instr.findKey kt (.int .i64 n) (eB 0 l)).run P w=.ok none w:=by
  intro w;simp only[Instr.findKey,Sem.run_bind,p,Result.andThen_ok,lP,M,Sem.run_pure]
 have G:(getObj b).run P w=.ok (.map (eB 0 l).toArray l.length) w:=by
  have i:w.heap[b]? = some (.map (eB 0 l).toArray l.length):=z;simp[getObj,Sem.run,i]
 have H:∀ o,(setObj b o).run P w=.ok () {w with heap:=w.heap.setIfInBounds b o }:=by
  intro o;have i:w.heap[b]? = some (.map (eB 0 l).toArray l.length):=z;simp[setObj,Sem.run,i]
 have I:mB (l++[(n,v)])=.map ((eB 0 l).toArray.push {key:=.int .i64 n,val:=v,born:=l.length}) (l.length+1):=by
  simp[mB,od]
 simp only[execOp,<-a,<-c,<-d];simp only[Instr.mapUpdate,Sem.run_bind,J,Result.andThen_ok,G,D,F,H,Sem.run_pure,I]
theorem DP (j:e.get m=.v (.map (some b))) (i:e.get k=.v (.int .i64 n))
  (B:∀ w:World,(underlying t).run P w=.ok (.map kt et) w) (d:∀ w:World,(underlying kt).run P w=.ok (.int .i64) w) {z:Value} (C:∀ w:World,(zeroValue et).run P w=.ok z w)
  (F:h b=some (mB l))
  (D:Kr (.tuple (match iy n l 0 with|some (_,v)=>#[v,.bool true]|none=>#[z,.bool false])) h):Raw P ⟨dst,.lookup t m k true,ty,pos,af,g⟩ e h Kr:=by
 rw[jS];unfold uH;refine⟨?_,λJ s w o=>?_⟩
 ·intro H p;simp only[Op.operands,List.mem_toArray,List.mem_cons,List.not_mem_nil,or_false]at p;rcases p with rfl|rfl
  ·exact⟨_,j⟩
  exact⟨_,i⟩
 have a:=s m (by simp[Op.operands]);have c:=s k (by simp[Op.operands]);rw[j]at a;rw[i]at c;injection a with a
 injection c with c
 refine⟨_,w,h,.inl ?_,cQ.refl o,D⟩;have G:w.heap[b]? = some (.map (eB 0 l).toArray l.length):=o _ _ F;have u:∀(q:Bool) (w:World),(Instr.checkKey q 10000 kt (.int .i64 n)).run P w=.ok () w:=by
  exact run_checkKey d n
 have y:∀ w:World,(Instr.findKey kt (.int .i64 n) (eB 0 l)).run P w=.ok (iy n l 0) w:=by
  intro w;simp only[Instr.findKey,Sem.run_bind,d,Result.andThen_ok,lP,Sem.run_pure]
 have A:(getObj b).run P w=.ok (.map (eB 0 l).toArray l.length) w:=by
  simp[getObj,Sem.run,G]
 simp only[execOp,<-a,<-c];simp only[Instr.lookup,Sem.run_bind,B,Result.andThen_ok,A,u,y,Sem.run_pure];cases iy n l 0 with
 | none=>simp only[Sem.run_bind,C,Result.andThen_ok,Sem.run_pure];rfl
 | some q=>obtain⟨I,H⟩:=q;simp only[Result.andThen_ok,Sem.run_pure];rfl
theorem GB (s:e.get m=.v (.map (some b))) (q:e.get k=.v (.int .i64 n))
  (a:∀ w:World,(underlying t).run P w=.ok (.map kt et) w) (c:∀ w:World,(underlying kt).run P w=.ok (.int .i64) w) {z:Value} (d:∀ w:World,(zeroValue et).run P w=.ok z w)
  (o:h b=some (mB l)) {i:Nat} (p:iy n l 0=some (i,v)) (j:Kr (.tuple #[v,.bool true]) h):Raw P ⟨dst,.lookup t m k true,ty,pos,af,g⟩ e h Kr:=DP s q a c d o (by rw[p];exact j)
theorem GC (q:e.get m=.v (.map (some b))) (p:e.get k=.v (.int .i64 n))
  (a:∀ w:World,(underlying t).run P w=.ok (.map kt et) w) (c:∀ w:World,(underlying kt).run P w=.ok (.int .i64) w) {z:Value} (d:∀ w:World,(zeroValue et).run P w=.ok z w)
  (j:h b=some (mB l)) (o:iy n l 0=none) (i:Kr (.tuple #[z,.bool false]) h):Raw P ⟨dst,.lookup t m k true,ty,pos,af,g⟩ e h Kr:=DP q p a c d j (by rw[o];exact i)
theorem fD {p:Prop} {_:Decidable p} {t f:Prop} (a:p) (c:t):@Bool.rec (λ_=>Prop) f t (decide p):=aC (λ_=>c) (λh=>absurd a h)
theorem cu {p:Prop} {_:Decidable p} {t f:Prop} (c:¬p) (a:f):@Bool.rec (λ_=>Prop) f t (decide p):=aC (λh=>absurd h c) (λ_=>a)
theorem DQ {p:Prop} {_:Decidable p} {t f:Prop} (a:¬p) (c:t):@Bool.rec (λ_=>Prop) f t (!decide p):=aX (λ_=>c) (λh=>absurd h a)
theorem JF {p:Prop} {_:Decidable p} {t f:Prop} (c:p) (a:f):@Bool.rec (λ_=>Prop) f t (!decide p):=aX (λh=>absurd c h) (λ_=>a)
theorem dm {p:Prop} {_:Decidable p} {t f:Prop} (c:t) (a:p:=by omega):@Bool.rec (λ_=>Prop) f t (decide p):=fD a c
theorem bZ {p:Prop} {_:Decidable p} {t f:Prop} (a:f) (c:¬p:=by omega):@Bool.rec (λ_=>Prop) f t (decide p):=cu c a
theorem eN {p:Prop} {_:Decidable p} {t f:Prop} (c:t) (a:¬p:=by omega):@Bool.rec (λ_=>Prop) f t (!decide p):=DQ a c
theorem eO {p:Prop} {_:Decidable p} {t f:Prop} (a:f) (c:p:=by omega):@Bool.rec (λ_=>Prop) f t (!decide p):=JF c a
variable {P:Program}
theorem DR {t u:TypeId} {f:Field} {F:Array (String × TypeId)} {j:IntKind} {info:TypeInfo} (c d:Int)
  (s:∀ w:World,(underlying t).run P w=.ok (.interface F) w) (y:∀ w:World,(typeInfo u).run P w=.ok info w) (z:info.comparable=true)
  (a:P.underlying u=some (.struct #[f])) (A:P.stoodInHeld u=false) (C:f.name≠ "_") (B:P.underlying f.type=some (.int j))
  (D:∀(x:Int) (w:World),(part f.type #[.int .i64 x] f.offset).run P w=.ok (.int .i64 x) w) (w:World) :
  (Go.binOp .eql t (.iface u (.agg #[.int .i64 c])) (.iface u (.agg #[.int .i64 d]))).run P w=.ok (.bool (c==d)) w:=by
 have i:P.fieldsOf u = #[f]:=by simp[Program.fieldsOf,a]
 have o:(Op.equalIn (9998+1) u (.agg #[.int .i64 c]) (.agg #[.int .i64 d])).run P w=.ok (c==d) w:=by
  rw[run_equalIn_struct w 9998 u _ _ (by rw[i];exact a) A,i];simp only[Op.eqFields,C,ne_eq,not_false_eq_true,if_true,Sem.run_bind,D,Result.andThen_ok];rw[show(9998:Nat)=9997+1 from rfl,run_equalIn_int w 9997 f.type .i64 j c d B];simp only[Result.andThen_ok];cases (c==d)<;>simp
 have p:(Op.equalIn (9999+1) t (.iface u (.agg #[.int .i64 c])) (.iface u (.agg #[.int .i64 d]))).run P w=.ok (c==d) w:=by
  rw[Op.equalIn];simp only[Sem.run_bind,s,Result.andThen_ok,ne_eq,not_true_eq_false,if_false,y,z,Bool.not_true,Bool.false_eq_true];exact o
 have q:(Op.equal t (.iface u (.agg #[.int .i64 c])) (.iface u (.agg #[.int .i64 d]))).run P w=.ok (c==d) w:=p;simp only[Go.binOp];simp[q]
theorem Cj {t u:TypeId} {f:Field} {D:Array (String × TypeId)} {info:TypeInfo} (c d:Bool)
  (q:∀ w:World,(underlying t).run P w=.ok (.interface D) w) (s:∀ w:World,(typeInfo u).run P w=.ok info w) (y:info.comparable=true)
  (a:P.underlying u=some (.struct #[f])) (z:P.stoodInHeld u=false) (B:f.name≠ "_") (A:P.underlying f.type=some .bool)
  (C:∀(x:Bool) (w:World),(part f.type #[.bool x] f.offset).run P w=.ok (.bool x) w) (w:World) :
  (Go.binOp .eql t (.iface u (.agg #[.bool c])) (.iface u (.agg #[.bool d]))).run P w=.ok (.bool (c==d)) w:=by
 have i:P.fieldsOf u = #[f]:=by simp[Program.fieldsOf,a]
 have j:(Op.equalIn (9998+1) u (.agg #[.bool c]) (.agg #[.bool d])).run P w=.ok (c==d) w:=by
  rw[run_equalIn_struct w 9998 u _ _ (by rw[i];exact a) z,i];simp only[Op.eqFields,B,ne_eq,not_false_eq_true,if_true,Sem.run_bind,C,Result.andThen_ok];rw[show(9998:Nat)=9997+1 from rfl,run_equalIn_bool' w 9997 f.type c d A];simp only[Result.andThen_ok];cases (c==d)<;>simp
 have o:(Op.equalIn (9999+1) t (.iface u (.agg #[.bool c])) (.iface u (.agg #[.bool d]))).run P w=.ok (c==d) w:=by
  rw[Op.equalIn];simp only[Sem.run_bind,q,Result.andThen_ok,ne_eq,not_true_eq_false,if_false,s,y,Bool.not_true,Bool.false_eq_true];exact j
 have p:(Op.equal t (.iface u (.agg #[.bool c])) (.iface u (.agg #[.bool d]))).run P w=.ok (c==d) w:=o;simp only[Go.binOp];simp[p]
theorem DS {t e:TypeId} (a:Option Addr) (l c:Nat) (h:P.underlying t=some (.slice e)) (w:World):(Go.binOp .eql t (.slice a l c) (.slice none 0 0)).run P w=.ok (.bool a.isNone) w:=by
 simp only[Go.binOp];simp[run_equal_slice_nil w t e a l c h]
variable {h:Heap} {e:Env} {dst:Option Nat} {t u ty:TypeId} {x y:Operand} {pos:String} {af:Array Edge} {g:Option (Nat × Bool)}
theorem JG {Kr:Value->Heap->Prop} {d:TypeId} {a:Option Addr} {l c:Nat} (o:e.get x=.v (.slice a l c)) (p:e.get y=.v (.slice none 0 0)) (j:P.underlying t=some (.slice d)) (i:Kr (.bool a.isNone) h) :
  Raw P ⟨dst,.binOp .eql t x y u,ty,pos,af,g⟩ e h Kr :=
 de o p (λw=>by simp[eqGuard]) (DS a l c j) i
variable {P:Program} {S:lD} {h:Heap} {e:Env} {dst:Option Nat} {t u el ty:TypeId} {x y:Operand} {pos:String} {af:Array Edge} {g:Option (Nat × Bool)}
theorem DT (o:dJ P S) {ti tu a:TI} {p:Option Addr} {k cap n:Nat} {kd:IntKind} {Kr:Value->Heap->Prop}
  (Ce:S.ty.find t=some ti) (Jp:ti.d=.sl el) (Jq:S.ty.find u=some tu) (Jr:tu.d=.num kd) (q:S.ty.find el=some a) (OE:e.get x=.v (.slice p k cap)) (UB:e.get y=.v (.int .i64 n))
  (Wn:n*a.bytes<=2 ^ 44/\n<=2 ^ 44) (i:App a.bytes a.size a.zero el h p k cap n (List.replicate n a.zero).flatten Kr):Raw P ⟨dst,.call {callee:=.builtin .append,args:=#[x,y],argTypes:=#[t,u]},ty,pos,af,g⟩ e h Kr:=by
 rw[jS];unfold uH;refine⟨?_,λρ UC w d=>?_⟩
 ·intro F B;simp only[Op.operands,Call.operands]at B;have:F=x\/F=y:=by simpa using B
  rcases this with rfl|rfl
  ·exact⟨_,OE⟩
  exact⟨_,UB⟩
 have z:=UC x (by simp[Op.operands,Call.operands]);have A:=UC y (by simp[Op.operands,Call.operands]);rw[OE]at z;rw[UB]at A;injection z with z
 injection A with A
 obtain⟨ab,Ir,Cd,N⟩:=cN o Ce w;rw[Jp]at N;cases ab<;>simp only[jO]at N<;>try cases N
 obtain⟨du,UD,_,Q⟩:=cN o Jq w;rw[Jr]at Q;cases du<;>simp only[jO]at Q<;>try cases Q
 obtain⟨i0,hi0,Mf,Wo⟩:=jd o q w;have UE:IntKind.i64.wrap (n:Int)=n:=wrap_i64 O O;have Y:∀ c:World,(asInt (.int .i64 (n:Int))).run P c=.ok (n:Int) c:=λ_=>rfl;have Mg:¬((n:Int) < 0):=by omega
 have Mh:¬((n:Int)*(a.bytes:Int) > 2 ^ 48):=by
  have:((n*a.bytes:Nat):Int)<=2 ^ 44:=by exact_mod_cast Wn.1
  rw[Int.natCast_mul]at this;omega
 have M:(execOp ρ ⟨dst,.call {callee:=.builtin .append,args:=#[x,y],argTypes:=#[t,u]},ty,pos,af,g⟩).run P w=((Builtin.append_ #[t,u] ty #[.slice p k cap,.int .i64 n]).run P w).andThen (λv j=>.ok (.value v) j):=by
  simp[execOp,resolve,invoke,builtin,<-z,<-A]
 have T:∀ c:World,(if n*a.size=0 then (pure #[]:Sem (Array Value))else do pure (Builtin.zeroCells (<-zeroValue el).cells n)).run P c=.ok (List.replicate n a.zero).flatten.toArray c:=by
  intro c;obtain⟨F,B,LY⟩:=ir o q c;have W:F.cells=a.zero.toArray:=by rw[<-LY]
  have Wp:a.zero.length=a.size:=o.zero _ _ q;split
  ·rename_i h0;have:(List.replicate n a.zero).flatten=[]:=List.eq_nil_of_length_eq_zero (by simp[Wp];simpa [Nat.mul_eq_zero]using h0);rw[this];simp
  simp only[Sem.run_bind,B,Result.andThen_ok,Sem.run_pure,lM,W]
 generalize hV:(List.replicate n a.zero).flatten=D at i T;rw[lG]at i;unfold vV at i;by_cases hle:k+n<=cap
 ·obtain⟨Gj,i⟩:=i.1 hle;have Mi:∀ j,(match p with
    | some aa=>(storeCells (aa.add (k*a.size)) D).run P w=.ok () j
    | none=>j=w)->((Builtin.append_ #[t,u] ty #[.slice p k cap,.int .i64 n]).run P w).andThen (λv j=>.ok (.value v) j)=(.ok (.value (.slice p (k+n) cap)) j:Result Next):=by
   intro j d;simp only[Builtin.append_,List.getElem?_toArray,List.getElem?_cons_zero,List.getElem?_cons_succ,Sem.run_bind,Ir,Result.andThen_ok,run_sizeOf o q,UD,Sem.run_pure,if_true,Y,UE,if_neg Mg,hi0,Mf,if_neg Mh,Int.toNat_natCast,if_pos hle,Bool.not_true,Bool.false_eq_true,if_false,T w];cases p with
   | none=>simp only at d;subst d;simp
   | some pa=>simp only at d;simp[d]
  rcases p with _|⟨b,X,_|sp⟩
  ·obtain⟨Pu,H⟩:=i;exact⟨_,w,h,.inl (by rw[M];exact Mi w rfl),cQ.refl d,H⟩
  ·obtain⟨cs,Wq,hb,zL,H⟩:=i;obtain⟨j,V,Jt,L4⟩:=fC (P:=P) b Wq D (X+k*a.size) 0 w cs (d _ _ hb) (by simpa using zL) Gj;refine⟨_,j,_,.inl (M.trans (Mi j ?_)),cQ.DE d hb _ (by simpa using Jt) L4,H⟩;simp only[iV];exact V
  exact i.elim
 obtain⟨V7,L5,C,L,i⟩:=i.2 O;obtain⟨ae,I,J,Gi⟩:=jd o q w;have Pw:=s9 (need:=k+n) (cap:=cap) O;have Ju:Builtin.nextslicecap (k+n) cap*a.bytes<=2 ^ 48:=by
  have G:=Nat.mul_le_mul_right a.bytes Pw;rw[Nat.mul_assoc]at G;omega
 have DG:∀ c:World,c.heap=w.heap->(Builtin.firstCells a.size k (.slice p k cap)).run P c=.ok C.toArray c:=by
  intro c V;rcases p with _|⟨b,X,_|sp⟩
  ·rw[L.2];rfl
  ·obtain⟨hl,hc⟩:=mD _ _ _ L;simp only[Builtin.firstCells,loadCells];have:=run_loadCells (P:=P) (w:=c) C b X 0 #[] (λad v hj=>by
    have:=nw d (hc ad v hj);simp only[World.cell?,V]at this ⊢;simpa using this)
   rw[hl]at this;simpa using this
  exact L.elim
 obtain⟨s,Jv,Jw⟩:∃ s,k+n<=s/\(choose (.appendCap (k+n) cap el)).run P w=.ok s {w with drawn:=w.drawn+1}:=by
  refine⟨_,?_,by simp[Question.forced];rfl⟩;simp only[Question.cut];omega
 have Jx:¬(((k+n:Nat):Int) > IntKind.i64.max):=by
  have:(IntKind.i64.max:Int)=9223372036854775807:=by decide
  rw[this];omega
 refine⟨.slice (some ⟨w.heap.size,0,none⟩) (k+n) s,{w with drawn:=w.drawn+1,heap:=w.heap.push (.cells (C++D++(List.replicate (s-(k+n)) a.zero).flatten).toArray el)},_,.inl ?_,?_,i _ s (tC d) Jv⟩
 ·rw[M];simp only[Builtin.append_,List.getElem?_toArray,List.getElem?_cons_zero,List.getElem?_cons_succ,Sem.run_bind,Ir,Result.andThen_ok,run_sizeOf o q,UD,Sem.run_pure,if_true,Y,UE,if_neg Mg,hi0,Mf,if_neg Mh,Int.toNat_natCast,if_neg hle,Bool.not_true,Bool.false_eq_true,if_false,I,J];rw[if_neg (by rintro⟨G,_⟩;exact Jx G)];simp only[Sem.run_bind,Sem.run_pure,Result.andThen_ok,I,J];rw[if_neg O];simp only[Sem.run_bind,Sem.run_pure,Result.andThen_ok,Jw,I,J,run_askRoom];obtain⟨i2,Jy,_,_⟩:=jd o q {w with drawn:=w.drawn+1};simp only[Jy,Result.andThen_ok];rw[DG {w with drawn:=w.drawn+1} rfl];simp only[Result.andThen_ok];rw[T {w with drawn:=w.drawn+1}];obtain⟨z',Jz,W⟩:=ir o q {w with drawn:=w.drawn+1};have DH:z'.cells=a.zero.toArray:=by rw[<-W]
  simp only[Result.andThen_ok,Jz,lM,DH,Go.newRow,Sem.run_bind,run_newObj,Sem.run_pure];simp
 have:=cQ.push d (.cells (C++D++(List.replicate (s-(k+n)) a.zero).flatten).toArray el);exact⟨this.view,this.aK,this.sB,this.size,this.fz,rfl,rfl,rfl⟩
theorem zX (F:dJ P S) {M C:TI} {b off c D a q:Nat} {p:Option Addr} {vs cs:List Value} {B:TypeId} {Kr:Value->Heap->Prop}
  (Ce:S.ty.find t=some M) (Jp:M.d=.sl el) (Wr:S.ty.find el=some C) (H:e.get x=.v (.slice (some ⟨b,off,none⟩) c D)) (I:e.get y=.v (.slice p a q))
  (hr:(p=none/\vs=[])\/∃ d o,p=some ⟨d,o,none⟩/\dP h d o (Nat.min a c*C.size)=some vs) (G:h b=some (.cells cs.toArray B (0,0))) (hl:off+vs.length<=cs.length) (T:dI vs=true)
  (hk:Kr (.int .i64 (Nat.min a c:Nat)) (h.set b (.cells (eH cs off vs).toArray B (0,0)))):Raw P ⟨dst,.call {callee:=.builtin .copy,args:=#[x,y],argTypes:=#[t,u]},ty,pos,af,g⟩ e h Kr:=by
 rw[jS];unfold uH;refine⟨?_,λρ L w A=>?_⟩
 ·intro N J;simp only[Op.operands,Call.operands]at J;have:N=x\/N=y:=by simpa using J
  rcases this with rfl|rfl
  ·exact⟨_,H⟩
  exact⟨_,I⟩
 have i:=L x (by simp[Op.operands,Call.operands]);have j:=L y (by simp[Op.operands,Call.operands]);rw[H]at i;rw[I]at j;injection i with i
 injection j with j
 obtain⟨Q,W,Cd,z⟩:=cN F Ce w;rw[Jp]at z;cases Q<;>simp only[jO]at z<;>try cases z
 have zJ:(execOp ρ ⟨dst,.call {callee:=.builtin .copy,args:=#[x,y],argTypes:=#[t,u]},ty,pos,af,g⟩).run P w=((Builtin.copy_ #[t,u] ty #[.slice (some ⟨b,off,none⟩) c D,.slice p a q]).run P w).andThen (λv s=>.ok (.value v) s):=by
  simp[execOp,resolve,invoke,builtin,<-i,<-j]
 have hlen:(Builtin.lenOf (.slice p a q)).run P w=.ok a w:=rfl;have X:(Builtin.firstCells C.size (Nat.min a c) (.slice p a q)).run P w=.ok vs.toArray w:=by
  rcases hr with ⟨rfl,rfl⟩|⟨d,o,rfl,Cf⟩
  ·rfl
  obtain⟨hl2,V⟩:=mD _ _ _ Cf;simp only[Builtin.firstCells,loadCells];have:=run_loadCells (P:=P) (w:=w) vs d o 0 #[] (λaa v Y=>by
   have:=nw A (V aa v Y);simpa using this)
  rw[hl2]at this;simpa using this
 obtain⟨s,Pv,Jt,L4⟩:=fC (P:=P) b B vs off 0 w cs.toArray (A _ _ G) (by simpa using hl) T;refine⟨_,s,_,.inl ?_,cQ.DE A G _ (by simpa using Jt) L4,hk⟩;rw[zJ];simp only[Builtin.copy_,List.getElem?_toArray,List.getElem?_cons_zero,List.getElem?_cons_succ,Sem.run_bind,W,Result.andThen_ok,hlen,run_sizeOf F Wr,X];have:(storeCells ⟨b,off,none⟩ vs).run P w=.ok () s:=Pv;simp[this,goInt]
end Go.Vc
namespace Go.Proofs
open Go.Vc Go.Proofs.Tryz
def Q_:PT:=.one 3 (.one 5 (.one 6 .nil))
def P_:PT:=.one 3 (.one 8 (.one 9 .nil))
def N_:PT:=.one 9 (.one 10 (.one 11 .nil))
def M_:PT:=.one 12 (.one 13 (.one 14 .nil))
def L_:PT:=.one 12 (.one 0 (.one 13 (.one 14 .nil)))
def K_:PT:=.one 16 (.one 17 (.one 18 (.one 19 (.one 20 .nil))))
def J_:PT:=.one 8 (.one 9 (.one 11 M_))
def H_:PT:=.alt 3 (.one 7 (.one 8 (.one 9 .nil))) (.alt 7 P_ .kA)
def G_:PT:=.alt 7 (.one 15 K_) (.alt 15 (.one 7 K_) .kA)
theorem z_ (h:Heap):h.le h:=Heap.le_refl h
theorem y_ {a b c:Heap} (h:a.le b) (k:b.le c):a.le c:=Heap.le_trans h k
theorem x_ {α:Type} {l:List α} {i:Nat} (h:i<l.length):l[i]∈l:=List.getElem_mem h
theorem w_ {α:Type} {l:List α} {i:Nat} (h:i<l.length):l[i]?=some l[i]:=List.getElem?_eq_getElem h
theorem v_ {α:Type} (a b:α):((some a:Option α)=some b)=(a=b):=Option.some.injEq a b
theorem u_ {α:Type} {a:α} {s t:List α}:a∈s++t↔a∈s\/a∈t:=List.mem_append
theorem Z_ (a:Option Addr) (b c:Nat) (d:Option Addr) (e f:Nat):(Value.slice a b c=.slice d e f)=(a=d/\b=e/\c=f):=Value.slice.injEq a b c d e f
theorem Y_ {a:Nat} {s t:List Nat}:(s++t).count a=s.count a+t.count a:=List.count_append
theorem X_ {a b:Nat} {l:List Nat}:(b::l).count a=l.count a+if b==a then 1 else 0:=List.count_cons
theorem W_ {a:Nat} {l:List Nat}:0<l.count a↔a∈l:=List.count_pos_iff
theorem V_ {α:Type} {a b:α}:a∈[b]↔a=b:=List.mem_singleton
theorem U_ {α:Type} {l k:List α}:(l++k).length=l.length+k.length:=List.length_append
theorem T_ {p q:Prop} (h:p) (k:q):p/\q:=⟨h,k⟩
theorem S_ {α:Type} {l:List α} {i:Nat} {a:α}:l.getD i a=l[i]?.getD a:=List.getD_eq_getElem?_getD
def Tryz.sig:Go.Vc.lD:=⟨.node (.node (.node (.node (.node (.node (.node (.node (.node (.leaf) 1 ⟨1,8,[.nilFunc],false,.cn⟩ (.leaf)) 2 ⟨1,8,[.int .i64 0],false,.num .i64⟩ (.leaf)) 3 ⟨1,8,[.int .i64 0],false,.num .i64⟩ (.node (.leaf) 4 ⟨1,1,[.bool false],false,.Po⟩ (.leaf))) 5 ⟨1,1,[.int .u8 0],false,.num .u8⟩ (.node (.node (.node (.leaf) 6 ⟨1,1,[.int .u8 0],false,.num .u8⟩ (.leaf)) 7 ⟨4,24,[.int .i64 0,.int .i64 0,.bool false,.int .u8 0],true,.str [(0,2),(1,3),(2,4),(3,6)]⟩ (.leaf)) 8 ⟨4,24,[.int .i64 0,.int .i64 0,.bool false,.int .u8 0],true,.str [(0,2),(1,3),(2,4),(3,6)]⟩ (.node (.leaf) 9 ⟨1,16,[.string ⟨#[]⟩],false,.Ln⟩ (.leaf)))) 10 ⟨1,16,[.string ⟨#[]⟩],false,.Ln⟩ (.node (.node (.node (.node (.leaf) 11 ⟨1,16,[.string ⟨#[]⟩],false,.Ln⟩ (.leaf)) 12 ⟨1,8,[.int .u64 0],false,.num .u64⟩ (.leaf)) 13 ⟨2,24,[.string ⟨#[]⟩,.int .u64 0],true,.str [(0,9),(1,12)]⟩ (.node (.leaf) 14 ⟨2,24,[.string ⟨#[]⟩,.int .u64 0],true,.str [(0,9),(1,12)]⟩ (.leaf))) 15 ⟨1,8,[.pointer none],false,.ptr 293⟩ (.node (.node (.node (.leaf) 16 ⟨1,8,[.pointer none],false,.ptr 296⟩ (.leaf)) 17 ⟨1,8,[.pointer none],false,.ptr 304⟩ (.leaf)) 18 ⟨1,8,[.pointer none],true,.str [(0,17)]⟩ (.node (.leaf) 19 ⟨1,8,[.pointer none],true,.str [(0,17)]⟩ (.leaf))))) 20 ⟨1,16,[.nilIface],false,.Dt⟩ (.node (.node (.node (.node (.node (.leaf) 21 ⟨1,4,[.int .i32 0],false,.num .i32⟩ (.leaf)) 22 ⟨1,24,[.slice none 0 0],false,.sl 5⟩ (.leaf)) 23 ⟨1,24,[.slice none 0 0],false,.sl 169⟩ (.node (.leaf) 24 ⟨1,24,[.slice none 0 0],false,.sl 86⟩ (.leaf))) 25 ⟨2,48,[.slice none 0 0,.slice none 0 0],true,.str [(0,23),(1,24)]⟩ (.node (.node (.node (.leaf) 26 ⟨2,48,[.slice none 0 0,.slice none 0 0],true,.str [(0,23),(1,24)]⟩ (.leaf)) 27 ⟨1,24,[.slice none 0 0],false,.sl 62⟩ (.leaf)) 28 ⟨1,24,[.slice none 0 0],false,.sl 39⟩ (.node (.leaf) 29 ⟨1,24,[.slice none 0 0],false,.sl 3⟩ (.leaf)))) 30 ⟨2,16,[.bool false,.int .i64 0],true,.str [(0,4),(1,3)]⟩ (.node (.node (.node (.node (.leaf) 31 ⟨2,16,[.bool false,.int .i64 0],true,.str [(0,4),(1,3)]⟩ (.leaf)) 32 ⟨7,104,[.slice none 0 0,.slice none 0 0,.slice none 0 0,.int .i64 0,.int .i64 0,.bool false,.int .i64 0],true,.str [(0,27),(1,28),(2,29),(3,3),(4,3),(5,31)]⟩ (.leaf)) 33 ⟨7,104,[.slice none 0 0,.slice none 0 0,.slice none 0 0,.int .i64 0,.int .i64 0,.bool false,.int .i64 0],true,.str [(0,27),(1,28),(2,29),(3,3),(4,3),(5,31)]⟩ (.node (.leaf) 35 ⟨1,8,[.nilFunc],false,.cn⟩ (.leaf))) 36 ⟨1,8,[.nilFunc],false,.cn⟩ (.node (.node (.leaf) 37 ⟨1,24,[.slice none 0 0],false,.sl 31⟩ (.leaf)) 38 ⟨4,64,[.int .i64 0,.int .i64 0,.slice none 0 0,.slice none 0 0],true,.str [(0,3),(1,3),(2,37),(3,37)]⟩ (.node (.leaf) 39 ⟨4,64,[.int .i64 0,.int .i64 0,.slice none 0 0,.slice none 0 0],true,.str [(0,3),(1,3),(2,37),(3,37)]⟩ (.leaf)))))) 40 ⟨1,24,[.slice none 0 0],false,.sl 44⟩ (.node (.node (.node (.node (.node (.node (.leaf) 42 ⟨1,8,[.nilFunc],false,.cn⟩ (.leaf)) 43 ⟨3,56,[.bool false,.slice none 0 0,.slice none 0 0],true,.str [(0,4),(1,29),(2,29)]⟩ (.leaf)) 44 ⟨3,56,[.bool false,.slice none 0 0,.slice none 0 0],true,.str [(0,4),(1,29),(2,29)]⟩ (.node (.leaf) 45 ⟨1,8,[.nilFunc],false,.cn⟩ (.leaf))) 46 ⟨1,8,[.nilFunc],false,.cn⟩ (.node (.node (.node (.leaf) 48 ⟨1,8,[.nilFunc],false,.cn⟩ (.leaf)) 49 ⟨1,8,[.nilFunc],false,.cn⟩ (.leaf)) 50 ⟨1,8,[.nilFunc],false,.cn⟩ (.node (.leaf) 51 ⟨1,8,[.nilFunc],false,.cn⟩ (.leaf)))) 52 ⟨1,8,[.nilFunc],false,.cn⟩ (.node (.node (.node (.node (.leaf) 53 ⟨1,8,[.nilFunc],false,.cn⟩ (.leaf)) 54 ⟨1,8,[.pointer none],false,.ptr 90⟩ (.leaf)) 55 ⟨1,8,[.nilFunc],false,.cn⟩ (.node (.leaf) 56 ⟨1,24,[.slice none 0 0],false,.sl 40⟩ (.leaf))) 58 ⟨1,8,[.nilFunc],false,.cn⟩ (.node (.node (.leaf) 59 ⟨1,8,[.nilFunc],false,.cn⟩ (.leaf)) 60 ⟨1,8,[.nilFunc],false,.cn⟩ (.node (.leaf) 61 ⟨2,32,[.int .i64 0,.slice none 0 0],true,.str [(0,3),(1,37)]⟩ (.leaf))))) 62 ⟨2,32,[.int .i64 0,.slice none 0 0],true,.str [(0,3),(1,37)]⟩ (.node (.node (.node (.node (.node (.leaf) 63 ⟨1,8,[.nilFunc],false,.cn⟩ (.leaf)) 64 ⟨1,8,[.nilFunc],false,.cn⟩ (.leaf)) 65 ⟨1,8,[.nilFunc],false,.cn⟩ (.node (.leaf) 66 ⟨1,8,[.nilFunc],false,.cn⟩ (.leaf))) 67 ⟨1,16,[.nilIface],false,.Dt⟩ (.node (.node (.node (.leaf) 68 ⟨1,16,[.nilIface],false,.Dt⟩ (.leaf)) 70 ⟨1,8,[.nilFunc],false,.cn⟩ (.leaf)) 71 ⟨1,8,[.nilFunc],false,.cn⟩ (.node (.leaf) 72 ⟨1,8,[.nilFunc],false,.cn⟩ (.leaf)))) 73 ⟨1,8,[.nilFunc],false,.cn⟩ (.node (.node (.node (.node (.leaf) 74 ⟨1,8,[.nilFunc],false,.cn⟩ (.leaf)) 75 ⟨1,8,[.nilFunc],false,.cn⟩ (.leaf)) 76 ⟨1,8,[.nilFunc],false,.cn⟩ (.node (.leaf) 77 ⟨1,8,[.nilFunc],false,.cn⟩ (.leaf))) 78 ⟨1,8,[.nilFunc],false,.cn⟩ (.node (.node (.leaf) 79 ⟨1,8,[.nilFunc],false,.cn⟩ (.leaf)) 80 ⟨1,8,[.nilFunc],false,.cn⟩ (.node (.leaf) 81 ⟨1,8,[.nilFunc],false,.cn⟩ (.leaf))))))) 82 ⟨1,8,[.nilFunc],false,.cn⟩ (.node (.node (.node (.node (.node (.node (.node (.leaf) 83 ⟨1,24,[.slice none 0 0],false,.sl 106⟩ (.leaf)) 84 ⟨1,24,[.slice none 0 0],false,.sl 191⟩ (.leaf)) 85 ⟨8,128,[.int .i64 0,.int .i64 0,.slice none 0 0,.int .i64 0,.int .i64 0,.slice none 0 0,.slice none 0 0,.slice none 0 0],true,.str [(0,3),(1,3),(2,29),(3,3),(4,3),(5,83),(6,40),(7,84)]⟩ (.node (.leaf) 86 ⟨8,128,[.int .i64 0,.int .i64 0,.slice none 0 0,.int .i64 0,.int .i64 0,.slice none 0 0,.slice none 0 0,.slice none 0 0],true,.str [(0,3),(1,3),(2,29),(3,3),(4,3),(5,83),(6,40),(7,84)]⟩ (.leaf))) 87 ⟨1,8,[.nilFunc],false,.cn⟩ (.node (.node (.node (.leaf) 88 ⟨1,8,[.nilFunc],false,.cn⟩ (.leaf)) 89 ⟨2,32,[.slice none 0 0,.int .i64 0],true,.str [(0,22),(1,3)]⟩ (.leaf)) 90 ⟨2,32,[.slice none 0 0,.int .i64 0],true,.str [(0,22),(1,3)]⟩ (.node (.leaf) 91 ⟨1,8,[.nilFunc],false,.cn⟩ (.leaf)))) 92 ⟨1,8,[.nilFunc],false,.cn⟩ (.node (.node (.node (.node (.leaf) 93 ⟨1,8,[.nilFunc],false,.cn⟩ (.leaf)) 94 ⟨1,8,[.nilFunc],false,.cn⟩ (.leaf)) 95 ⟨1,8,[.nilFunc],false,.cn⟩ (.node (.leaf) 96 ⟨1,8,[.nilFunc],false,.cn⟩ (.leaf))) 97 ⟨1,8,[.nilFunc],false,.cn⟩ (.node (.node (.leaf) 98 ⟨1,8,[.nilFunc],false,.cn⟩ (.leaf)) 99 ⟨1,8,[.nilFunc],false,.cn⟩ (.node (.leaf) 100 ⟨1,8,[.nilFunc],false,.cn⟩ (.leaf))))) 101 ⟨1,8,[.nilFunc],false,.cn⟩ (.node (.node (.node (.node (.node (.leaf) 102 ⟨1,8,[.nilFunc],false,.cn⟩ (.leaf)) 103 ⟨1,8,[.nilFunc],false,.cn⟩ (.leaf)) 104 ⟨1,8,[.nilFunc],false,.cn⟩ (.node (.leaf) 105 ⟨3,24,[.int .i64 0,.int .i64 0,.int .i64 0],true,.str [(0,3),(1,3),(2,3)]⟩ (.leaf))) 106 ⟨3,24,[.int .i64 0,.int .i64 0,.int .i64 0],true,.str [(0,3),(1,3),(2,3)]⟩ (.node (.node (.node (.leaf) 107 ⟨1,8,[.nilFunc],false,.cn⟩ (.leaf)) 108 ⟨1,16,[.string ⟨#[]⟩],false,.Ln⟩ (.leaf)) 109 ⟨1,16,[.nilIface],false,.Dt⟩ (.node (.leaf) 110 ⟨1,16,[.nilIface],false,.Dt⟩ (.leaf)))) 111 ⟨1,8,[.nilFunc],false,.cn⟩ (.node (.node (.node (.node (.leaf) 112 ⟨1,8,[.nilFunc],false,.cn⟩ (.leaf)) 113 ⟨1,8,[.nilFunc],false,.cn⟩ (.leaf)) 114 ⟨1,8,[.map none],false,.cn⟩ (.node (.leaf) 115 ⟨1,8,[.nilFunc],false,.cn⟩ (.leaf))) 116 ⟨1,8,[.nilFunc],false,.cn⟩ (.node (.node (.leaf) 117 ⟨1,8,[.nilFunc],false,.cn⟩ (.leaf)) 118 ⟨1,8,[.nilFunc],false,.cn⟩ (.node (.leaf) 119 ⟨1,8,[.nilFunc],false,.cn⟩ (.leaf)))))) 120 ⟨1,8,[.nilFunc],false,.cn⟩ (.node (.node (.node (.node (.node (.node (.leaf) 121 ⟨1,8,[.nilFunc],false,.cn⟩ (.leaf)) 122 ⟨1,8,[.nilFunc],false,.cn⟩ (.leaf)) 123 ⟨1,8,[.nilFunc],false,.cn⟩ (.node (.leaf) 124 ⟨1,8,[.nilFunc],false,.cn⟩ (.leaf))) 125 ⟨1,8,[.nilFunc],false,.cn⟩ (.node (.node (.node (.leaf) 126 ⟨1,8,[.nilFunc],false,.cn⟩ (.leaf)) 127 ⟨1,8,[.nilFunc],false,.cn⟩ (.leaf)) 128 ⟨1,8,[.nilFunc],false,.cn⟩ (.node (.leaf) 129 ⟨1,8,[.nilFunc],false,.cn⟩ (.leaf)))) 130 ⟨1,8,[.int .i64 0],true,.str [(0,3)]⟩ (.node (.node (.node (.node (.leaf) 131 ⟨1,8,[.int .i64 0],true,.str [(0,3)]⟩ (.leaf)) 133 ⟨1,8,[.nilFunc],false,.cn⟩ (.leaf)) 134 ⟨1,8,[.pointer none],false,.ptr 33⟩ (.node (.leaf) 135 ⟨1,8,[.nilFunc],false,.cn⟩ (.leaf))) 136 ⟨1,8,[.nilFunc],false,.cn⟩ (.node (.node (.leaf) 137 ⟨1,8,[.nilFunc],false,.cn⟩ (.leaf)) 138 ⟨1,8,[.pointer none],false,.ptr 140⟩ (.node (.leaf) 139 ⟨11,168,[.slice none 0 0,.slice none 0 0,.slice none 0 0,.slice none 0 0,.slice none 0 0,.int .i64 0,.int .i64 0,.bool false,.int .i64 0,.bool false,.int .i64 0],true,.str [(0,26),(2,33),(9,4),(10,3)]⟩ (.leaf))))) 140 ⟨11,168,[.slice none 0 0,.slice none 0 0,.slice none 0 0,.slice none 0 0,.slice none 0 0,.int .i64 0,.int .i64 0,.bool false,.int .i64 0,.bool false,.int .i64 0],true,.str [(0,26),(2,33),(9,4),(10,3)]⟩ (.node (.node (.node (.node (.node (.leaf) 141 ⟨1,8,[.nilFunc],false,.cn⟩ (.leaf)) 142 ⟨1,8,[.nilFunc],false,.cn⟩ (.leaf)) 143 ⟨1,8,[.nilFunc],false,.cn⟩ (.node (.leaf) 144 ⟨1,8,[.nilFunc],false,.cn⟩ (.leaf))) 145 ⟨1,8,[.nilFunc],false,.cn⟩ (.node (.node (.node (.leaf) 146 ⟨1,8,[.nilFunc],false,.cn⟩ (.leaf)) 148 ⟨1,8,[.nilFunc],false,.cn⟩ (.leaf)) 149 ⟨1,8,[.nilFunc],false,.cn⟩ (.node (.leaf) 150 ⟨1,8,[.nilFunc],false,.cn⟩ (.leaf)))) 151 ⟨1,8,[.nilFunc],false,.cn⟩ (.node (.node (.node (.node (.leaf) 152 ⟨1,8,[.nilFunc],false,.cn⟩ (.leaf)) 154 ⟨1,8,[.nilFunc],false,.cn⟩ (.leaf)) 155 ⟨1,8,[.nilFunc],false,.cn⟩ (.node (.leaf) 156 ⟨1,8,[.nilFunc],false,.cn⟩ (.leaf))) 158 ⟨1,8,[.nilFunc],false,.cn⟩ (.node (.node (.leaf) 159 ⟨1,24,[.slice none 0 0],false,.sl 93⟩ (.leaf)) 160 ⟨1,8,[.nilFunc],false,.cn⟩ (.node (.leaf) 161 ⟨1,8,[.nilFunc],false,.cn⟩ (.leaf)))))))) 162 ⟨1,8,[.nilFunc],false,.cn⟩ (.node (.node (.node (.node (.node (.node (.node (.node (.leaf) 163 ⟨1,16,[.nilIface],false,.Dt⟩ (.leaf)) 164 ⟨1,16,[.nilIface],false,.Dt⟩ (.leaf)) 165 ⟨1,8,[.nilFunc],false,.cn⟩ (.node (.leaf) 166 ⟨1,8,[.nilFunc],false,.cn⟩ (.leaf))) 167 ⟨1,8,[.nilFunc],false,.cn⟩ (.node (.node (.node (.leaf) 168 ⟨2,32,[.int .i64 0,.slice none 0 0],true,.str [(0,3),(1,29)]⟩ (.leaf)) 169 ⟨2,32,[.int .i64 0,.slice none 0 0],true,.str [(0,3),(1,29)]⟩ (.leaf)) 170 ⟨1,8,[.nilFunc],false,.cn⟩ (.node (.leaf) 171 ⟨1,8,[.pointer none],true,.str [(0,17)]⟩ (.leaf)))) 172 ⟨1,8,[.pointer none],true,.str [(0,17)]⟩ (.node (.node (.node (.node (.leaf) 173 ⟨1,8,[.pointer none],false,.ptr 312⟩ (.leaf)) 174 ⟨1,16,[.nilIface],false,.Dt⟩ (.leaf)) 176 ⟨1,8,[.nilFunc],false,.cn⟩ (.node (.leaf) 177 ⟨1,16,[.nilIface],false,.Dt⟩ (.leaf))) 178 ⟨1,8,[.nilFunc],false,.cn⟩ (.node (.node (.leaf) 179 ⟨1,16,[.nilIface],false,.Dt⟩ (.leaf)) 180 ⟨1,24,[.slice none 0 0],false,.sl 68⟩ (.node (.leaf) 181 ⟨1,8,[.nilFunc],false,.cn⟩ (.leaf))))) 182 ⟨1,8,[.nilFunc],false,.cn⟩ (.node (.node (.node (.node (.node (.leaf) 183 ⟨1,8,[.int .i64 0],false,.num .i64⟩ (.leaf)) 184 ⟨2,16,[.int .i64 0,.int .i64 0],true,.str [(0,183),(1,183)]⟩ (.leaf)) 185 ⟨2,16,[.int .i64 0,.int .i64 0],true,.str [(0,183),(1,183)]⟩ (.node (.leaf) 186 ⟨1,8,[.nilFunc],false,.cn⟩ (.leaf))) 188 ⟨1,8,[.nilFunc],false,.cn⟩ (.node (.node (.node (.leaf) 189 ⟨1,8,[.nilFunc],false,.cn⟩ (.leaf)) 190 ⟨4,32,[.int .i64 0,.int .i64 0,.int .i64 0,.int .i64 0],true,.str [(0,3),(1,3),(2,3),(3,3)]⟩ (.leaf)) 191 ⟨4,32,[.int .i64 0,.int .i64 0,.int .i64 0,.int .i64 0],true,.str [(0,3),(1,3),(2,3),(3,3)]⟩ (.node (.leaf) 192 ⟨1,8,[.nilFunc],false,.cn⟩ (.leaf)))) 193 ⟨1,8,[.nilFunc],false,.cn⟩ (.node (.node (.node (.node (.leaf) 194 ⟨1,8,[.nilFunc],false,.cn⟩ (.leaf)) 195 ⟨1,8,[.nilFunc],false,.cn⟩ (.leaf)) 196 ⟨1,8,[.nilFunc],false,.cn⟩ (.node (.leaf) 197 ⟨1,8,[.pointer none],false,.ptr 243⟩ (.leaf))) 198 ⟨1,8,[.nilFunc],false,.cn⟩ (.node (.node (.leaf) 199 ⟨1,8,[.pointer none],false,.ptr 39⟩ (.leaf)) 200 ⟨1,8,[.nilFunc],false,.cn⟩ (.node (.leaf) 201 ⟨1,8,[.nilFunc],false,.cn⟩ (.leaf)))))) 202 ⟨1,8,[.nilFunc],false,.cn⟩ (.node (.node (.node (.node (.node (.node (.leaf) 203 ⟨1,8,[.nilFunc],false,.cn⟩ (.leaf)) 204 ⟨1,8,[.nilFunc],false,.cn⟩ (.leaf)) 205 ⟨1,24,[.slice none 0 0],false,.sl 37⟩ (.node (.leaf) 206 ⟨1,8,[.nilFunc],false,.cn⟩ (.leaf))) 207 ⟨1,8,[.nilFunc],false,.cn⟩ (.node (.node (.node (.leaf) 208 ⟨1,8,[.nilFunc],false,.cn⟩ (.leaf)) 209 ⟨1,8,[.nilFunc],false,.cn⟩ (.leaf)) 210 ⟨1,8,[.nilFunc],false,.cn⟩ (.node (.leaf) 211 ⟨1,8,[.nilFunc],false,.cn⟩ (.leaf)))) 212 ⟨1,8,[.nilFunc],false,.cn⟩ (.node (.node (.node (.node (.leaf) 213 ⟨1,8,[.nilFunc],false,.cn⟩ (.leaf)) 214 ⟨1,8,[.nilFunc],false,.cn⟩ (.leaf)) 215 ⟨1,8,[.nilFunc],false,.cn⟩ (.node (.leaf) 216 ⟨1,8,[.nilFunc],false,.cn⟩ (.leaf))) 217 ⟨1,8,[.pointer none],false,.ptr 219⟩ (.node (.node (.leaf) 218 ⟨2,48,[.slice none 0 0,.slice none 0 0],true,.str [(0,29),(1,29)]⟩ (.leaf)) 219 ⟨2,48,[.slice none 0 0,.slice none 0 0],true,.str [(0,29),(1,29)]⟩ (.node (.leaf) 220 ⟨1,8,[.nilFunc],false,.cn⟩ (.leaf))))) 221 ⟨1,8,[.nilFunc],false,.cn⟩ (.node (.node (.node (.node (.node (.leaf) 222 ⟨1,8,[.nilFunc],false,.cn⟩ (.leaf)) 223 ⟨1,8,[.nilFunc],false,.cn⟩ (.leaf)) 224 ⟨1,8,[.int .u64 0],false,.num .u64⟩ (.node (.leaf) 226 ⟨1,8,[.nilFunc],false,.cn⟩ (.leaf))) 227 ⟨0,0,[],true,.str []⟩ (.node (.node (.node (.leaf) 228 ⟨0,0,[],true,.str []⟩ (.leaf)) 229 ⟨0,0,[],true,.str []⟩ (.leaf)) 230 ⟨0,0,[],true,.str []⟩ (.node (.leaf) 231 ⟨1,1,[.bool false],true,.str [(0,4)]⟩ (.leaf)))) 232 ⟨1,1,[.bool false],true,.str [(0,4)]⟩ (.node (.node (.node (.node (.leaf) 233 ⟨1,8,[.int .i64 0],true,.str [(0,3)]⟩ (.leaf)) 234 ⟨1,8,[.int .i64 0],true,.str [(0,3)]⟩ (.leaf)) 236 ⟨1,8,[.nilFunc],false,.cn⟩ (.node (.leaf) 238 ⟨1,8,[.nilFunc],false,.cn⟩ (.leaf))) 239 ⟨1,8,[.nilFunc],false,.cn⟩ (.node (.node (.leaf) 240 ⟨9,136,[.pointer none,.int .i64 0,.int .i64 0,.slice none 0 0,.int .i64 0,.int .i64 0,.slice none 0 0,.slice none 0 0,.slice none 0 0],true,.str [(0,199),(1,86)]⟩ (.leaf)) 241 ⟨9,136,[.pointer none,.int .i64 0,.int .i64 0,.slice none 0 0,.int .i64 0,.int .i64 0,.slice none 0 0,.slice none 0 0,.slice none 0 0],true,.str [(0,199),(1,86)]⟩ (.node (.leaf) 242 ⟨12,192,[.pointer none,.int .i64 0,.int .i64 0,.slice none 0 0,.int .i64 0,.int .i64 0,.slice none 0 0,.slice none 0 0,.slice none 0 0,.slice none 0 0,.slice none 0 0,.pointer none],true,.str [(0,241),(9,26),(11,134)]⟩ (.leaf))))))) 243 ⟨12,192,[.pointer none,.int .i64 0,.int .i64 0,.slice none 0 0,.int .i64 0,.int .i64 0,.slice none 0 0,.slice none 0 0,.slice none 0 0,.slice none 0 0,.slice none 0 0,.pointer none],true,.str [(0,241),(9,26),(11,134)]⟩ (.node (.node (.node (.node (.node (.node (.node (.leaf) 244 ⟨1,8,[.nilFunc],false,.cn⟩ (.leaf)) 246 ⟨1,8,[.nilFunc],false,.cn⟩ (.leaf)) 247 ⟨1,8,[.nilFunc],false,.cn⟩ (.node (.leaf) 248 ⟨1,8,[.nilFunc],false,.cn⟩ (.leaf))) 249 ⟨1,8,[.pointer none],false,.ptr 62⟩ (.node (.node (.node (.leaf) 250 ⟨1,8,[.nilFunc],false,.cn⟩ (.leaf)) 251 ⟨1,8,[.nilFunc],false,.cn⟩ (.leaf)) 252 ⟨1,8,[.nilFunc],false,.cn⟩ (.node (.leaf) 253 ⟨1,24,[.slice none 0 0],false,.sl 4⟩ (.leaf)))) 254 ⟨1,8,[.nilFunc],false,.cn⟩ (.node (.node (.node (.node (.leaf) 255 ⟨1,8,[.nilFunc],false,.cn⟩ (.leaf)) 257 ⟨1,8,[.nilFunc],false,.cn⟩ (.leaf)) 259 ⟨1,8,[.nilFunc],false,.cn⟩ (.node (.leaf) 260 ⟨1,8,[.nilFunc],false,.cn⟩ (.leaf))) 261 ⟨1,8,[.nilFunc],false,.cn⟩ (.node (.node (.leaf) 262 ⟨1,4,[.int .u32 0],false,.num .u32⟩ (.leaf)) 264 ⟨1,8,[.nilFunc],false,.cn⟩ (.node (.leaf) 265 ⟨1,8,[.int .u64 0],false,.num .u64⟩ (.leaf))))) 267 ⟨1,8,[.nilFunc],false,.cn⟩ (.node (.node (.node (.node (.node (.leaf) 268 ⟨1,8,[.nilFunc],false,.cn⟩ (.leaf)) 269 ⟨1,8,[.nilFunc],false,.cn⟩ (.leaf)) 270 ⟨1,8,[.nilFunc],false,.cn⟩ (.node (.leaf) 271 ⟨1,24,[.slice none 0 0],false,.sl 273⟩ (.leaf))) 272 ⟨1,8,[.nilFunc],false,.cn⟩ (.node (.node (.node (.leaf) 273 ⟨1,8,[.int .i64 0],false,.num .i64⟩ (.leaf)) 274 ⟨1,8,[.nilFunc],false,.cn⟩ (.leaf)) 275 ⟨1,8,[.nilFunc],false,.cn⟩ (.node (.leaf) 276 ⟨1,1,[.int .i8 0],false,.num .i8⟩ (.leaf)))) 277 ⟨1,1,[.int .i8 0],false,.num .i8⟩ (.node (.node (.node (.node (.leaf) 278 ⟨5,40,[.nilFunc,.nilFunc,.nilFunc,.nilFunc,.nilFunc],true,.arr 5 274⟩ (.leaf)) 279 ⟨1,8,[.nilFunc],false,.cn⟩ (.leaf)) 280 ⟨1,8,[.nilFunc],false,.cn⟩ (.node (.leaf) 281 ⟨1,8,[.nilFunc],false,.cn⟩ (.leaf))) 282 ⟨1,8,[.nilFunc],false,.cn⟩ (.node (.node (.leaf) 283 ⟨1,8,[.pointer none],false,.ptr 31⟩ (.leaf)) 284 ⟨1,8,[.nilFunc],false,.cn⟩ (.node (.leaf) 285 ⟨1,8,[.nilFunc],false,.cn⟩ (.leaf)))))) 286 ⟨1,24,[.slice none 0 0],false,.sl 29⟩ (.node (.node (.node (.node (.node (.node (.leaf) 287 ⟨1,8,[.nilFunc],false,.cn⟩ (.leaf)) 288 ⟨1,8,[.nilFunc],false,.cn⟩ (.leaf)) 289 ⟨1,8,[.nilFunc],false,.cn⟩ (.node (.leaf) 290 ⟨1,8,[.pointer none],false,.ptr 314⟩ (.leaf))) 291 ⟨1,8,[.nilFunc],false,.cn⟩ (.node (.node (.node (.leaf) 292 ⟨4,40,[.pointer none,.pointer none,.pointer none,.string ⟨#[]⟩],true,.str [(0,17),(1,17),(2,17),(3,9)]⟩ (.leaf)) 293 ⟨4,40,[.pointer none,.pointer none,.pointer none,.string ⟨#[]⟩],true,.str [(0,17),(1,17),(2,17),(3,9)]⟩ (.leaf)) 294 ⟨0,0,[],true,.arr 0 16⟩ (.node (.leaf) 297 ⟨1,1,[.int .u8 0],false,.num .u8⟩ (.leaf)))) 298 ⟨1,1,[.int .u8 0],false,.num .u8⟩ (.node (.node (.node (.node (.leaf) 299 ⟨1,8,[.nilFunc],false,.cn⟩ (.leaf)) 300 ⟨1,8,[.pointer none],false,.ptr 5⟩ (.leaf)) 301 ⟨1,4,[.int .i32 0],false,.num .i32⟩ (.node (.leaf) 302 ⟨1,4,[.int .i32 0],false,.num .i32⟩ (.leaf))) 303 ⟨11,48,[.int .u64 0,.int .u64 0,.int .u32 0,.int .u8 0,.int .u8 0,.int .u8 0,.int .u8 0,.nilFunc,.pointer none,.int .i32 0,.int .i32 0],true,.str [(0,12),(1,12),(2,262),(3,297),(4,5),(5,5),(6,298),(7,299),(8,300),(9,301),(10,302)]⟩ (.node (.node (.leaf) 304 ⟨11,48,[.int .u64 0,.int .u64 0,.int .u32 0,.int .u8 0,.int .u8 0,.int .u8 0,.int .u8 0,.nilFunc,.pointer none,.int .i32 0,.int .i32 0],true,.str [(0,12),(1,12),(2,262),(3,297),(4,5),(5,5),(6,298),(7,299),(8,300),(9,301),(10,302)]⟩ (.leaf)) 305 ⟨1,8,[.nilFunc],false,.cn⟩ (.node (.leaf) 306 ⟨1,8,[.nilFunc],false,.cn⟩ (.leaf))))) 307 ⟨1,8,[.nilFunc],false,.cn⟩ (.node (.node (.node (.node (.node (.leaf) 308 ⟨1,8,[.nilFunc],false,.cn⟩ (.leaf)) 309 ⟨1,8,[.nilFunc],false,.cn⟩ (.leaf)) 310 ⟨1,8,[.nilFunc],false,.cn⟩ (.node (.leaf) 311 ⟨2,24,[.string ⟨#[]⟩,.int .u8 0],true,.str [(0,9),(1,298)]⟩ (.leaf))) 312 ⟨2,24,[.string ⟨#[]⟩,.int .u8 0],true,.str [(0,9),(1,298)]⟩ (.node (.node (.node (.leaf) 313 ⟨1,16,[.string ⟨#[]⟩],true,.str [(0,9)]⟩ (.leaf)) 314 ⟨1,16,[.string ⟨#[]⟩],true,.str [(0,9)]⟩ (.leaf)) 315 ⟨1,8,[.pointer none],false,.cn⟩ (.node (.leaf) 316 ⟨1,8,[.pointer none],false,.ptr 320⟩ (.leaf)))) 317 ⟨1,8,[.nilFunc],false,.cn⟩ (.node (.node (.node (.node (.leaf) 318 ⟨1,2,[.int .u16 0],false,.num .u16⟩ (.leaf)) 319 ⟨5,16,[.int .i32 0,.int .u16 0,.int .u16 0,.int .u32 0,.int .u32 0],true,.str [(0,301),(1,318),(2,318),(3,262),(4,262)]⟩ (.leaf)) 320 ⟨5,16,[.int .i32 0,.int .u16 0,.int .u16 0,.int .u32 0,.int .u32 0],true,.str [(0,301),(1,318),(2,318),(3,262),(4,262)]⟩ (.node (.leaf) 321 ⟨1,24,[.slice none 0 0],false,.sl 324⟩ (.leaf))) 322 ⟨1,4,[.int .i32 0],false,.num .i32⟩ (.node (.node (.leaf) 323 ⟨4,16,[.int .i32 0,.int .i32 0,.int .i32 0,.int .i32 0],true,.str [(0,301),(1,302),(2,322),(3,322)]⟩ (.leaf)) 324 ⟨4,16,[.int .i32 0,.int .i32 0,.int .i32 0,.int .i32 0],true,.str [(0,301),(1,302),(2,322),(3,322)]⟩ (.node (.leaf) 325 ⟨1,8,[.nilFunc],false,.cn⟩ (.leaf)))))))),3,272,88⟩
theorem U {p:Prop} (h:p:=by kernel_rfl):p:=h
theorem Tryz.ax:dJ prog sig:=dJ.mk' (by kernel_rfl) (by kernel_rfl) (by kernel_rfl) (by kernel_rfl)
def Tryz.Ws:Fs:={L:=[2,3]}
def Tryz.Wt:Fs:={L:=[2,4,5]}
def Tryz.Wu:Fs:={}
def Tryz.PE:Fs:={L:=[1,6,30]}
theorem Tryz.Mj:iW PE Tryz.f29 1=true:=by kernel_rfl
def Tryz.Wv:Fs:={}
def Tryz.Ww:Fs:={L:=[3]}
def Tryz.Wx:Fs:={}
def Tryz.Wy:Fs:={L:=[1,3,6]}
def Tryz.Wz:Fs:={}
def Tryz.WA:Fs:={L:=[2,3]}
def Tryz.WB:Fs:={cq:=[(7,[0,1,2,4,5,6,7,15,16,17,19,20,21,22,23,24,33,34,36,37,38,39,3,8,9,10,11,12,13,14,18,25,26,27,28,29,30,31,32,35,40,41,42,43,44,45])]}
def Tryz.WC:Fs:={L:=[3]}
def Tryz.WD:Fs:={}
def Tryz.WE:Fs:={L:=[1],LL:=[45,47],cq:=[(8,[1,3,0,2,4,5,6,7])]}
def Tryz.WG:Fs:={}
def Tryz.WH:Fs:={L:=[1,2],LL:=[8],trees:=[(3,(.one 1 (.alt 0 (.alt 2 (.alt 3 (.one 4 (.one 5 (.one 6 .nil))) (.alt 4 Q_ .kA)) (.alt 4 (.one 2 Q_) .kA)) (.alt 4 (.one 0 (.one 2 Q_)) .kA))))]}
def Tryz.WI:Fs:={L:=[2,3,4,6],LL:=[8,9,22,24,26,37,39,44,64,65],cq:=[(1,[0,1,2,3,4,5]),(3,[0,2,4,1,3,5,6,7,8,9,10]),(5,[0,1,3,8,2,4,5,6,9,7,10,11,12]),(8,[0,1,2,3,4,5])],M:=[129]}
def Tryz.WJ:Fs:={L:=[1,2,3,6,34,64],LL:=[18,20,27],trees:=[(6,(.one 0 (.one 2 (.one 4 (.one 9 (.one 11 (.one 1 (.one 3 (.one 5 (.one 6 (.one 10 (.one 12 (.one 13 (.alt 7 (.alt 8 (.one 14 (.one 15 K_)) (.alt 14 (.one 8 (.one 15 K_)) .kA)) (.alt 8 (.alt 7 (.one 14 (.one 15 K_)) (.alt 14 G_ .kA)) (.alt 14 (.alt 7 (.one 8 (.one 15 K_)) (.alt 8 G_ .kA)) .kA))))))))))))))))]}
def Tryz.WK:Fs:={L:=[2,3,7,10,53],LL:=[31,32,34],cq:=[(8,[0,1,2,5,7,3,4,6,8,9,10,11,12])]}
def Tryz.WL:Fs:={L:=[2]}
def Tryz.WM:Fs:={L:=[2,3,7,10,11,12,66],LL:=[68,69],cq:=[(17,[0,1,2,3,4,5])]}
def Tryz.PF:Fs:={}
theorem Tryz.Mk:iW PF Tryz.f65 1=true:=by kernel_rfl
def Tryz.WN:Fs:={}
def Tryz.WO:Fs:={}
def Tryz.OF:Fs:={L:=[6]}
theorem Tryz.JH:iW OF Tryz.f68 2=true:=by kernel_rfl
def Tryz.WQ:Fs:={L:=[3]}
def Tryz.OG:Fs:={L:=[3,4,5],LL:=[20,28],cq:=[(5,[2,3,4,0,1,5,6]),(7,[2,3,4,0,1,5,6])]}
theorem Tryz.JI:iW OG Tryz.f70 3=true:=by kernel_rfl
def Tryz.WR:Fs:={}
def Tryz.WS:Fs:={L:=[4,5,9,11,14],LL:=[34,38,49,52,59,61,70,72,74],cq:=[(5,[0,1,5,9,2,3,6,4,7,8,10]),(8,[1,2,0,3,4,5,6,7]),(11,[0,2,4,5,11,1,3,6,7,8,9,10,12]),(12,[0,2,4,6,1,3,5,7,8,9,10,11])]}
def Tryz.WT:Fs:={}
def Tryz.WU:Fs:={cq:=[(1,[0,1,2,3,4,6,8,5,7,9,10,11,12,13])]}
def Tryz.WV:Fs:={}
def Tryz.WW:Fs:={L:=[3]}
def Tryz.WX:Fs:={}
def Tryz.WY:Fs:={cq:=[(3,[0,1,2,3,4,7,8,9,10,11,5,6,12,13])]}
def Tryz.Ml:Fs:={L:=[2,3]}
theorem Tryz.GD:iW Ml Tryz.f83 2=true:=by kernel_rfl
def Tryz.WZ:Fs:={}
def Tryz.W0:Fs:={}
def Tryz.W1:Fs:={L:=[2]}
def Tryz.W2:Fs:={L:=[3,5]}
def Tryz.W3:Fs:={}
def Tryz.W4:Fs:={L:=[2,3],LL:=[62,66,67],cq:=[(14,[0,1,2,3,4,5,6,7,8,9,10,11])]}
def Tryz.W5:Fs:={L:=[3,4,8,9,12]}
def Tryz.W6:Fs:={L:=[2,3,6]}
def Tryz.W7:Fs:={L:=[1,4,6]}
def Tryz.W8:Fs:={L:=[2]}
def Tryz.W9:Fs:={L:=[2]}
def Tryz.Xa:Fs:={}
def Tryz.Xb:Fs:={L:=[3],LL:=[7,11,15,24,29,37,43,49],cq:=[(1,[1,2,0,3,4,5,7,9,6,10,8,11,12,13,14,15,16,17,18,21,23,19,20,24,22,25,26,27,28,29,30,31,32,33,34,35,36,37,38,39,40,41,42,43,44,45,46,47,48])]}
def Tryz.PG:Fs:={L:=[6]}
def Tryz.PI:Fs:={}
def Tryz.PJ:Fs:={}
def Tryz.PK:Fs:={}
def Tryz.PL:Fs:={}
def Tryz.PM:Fs:={}
def Tryz.PN:Fs:={}
def Tryz.PO:Fs:={L:=[1]}
def Tryz.PR:Fs:={}
def Tryz.PS:Fs:={L:=[3]}
def Tryz.PU:Fs:={L:=[3],LL:=[19,23,27],cq:=[(3,[0,1,2,3,4,5,8,9,6,7,10,11,12,13,14,15])]}
def Tryz.PV:Fs:={}
def Tryz.PW:Fs:={L:=[6]}
def Tryz.PX:Fs:={}
def Tryz.PY:Fs:={L:=[1]}
def Tryz.PZ:Fs:={L:=[0]}
def Tryz.P0:Fs:={L:=[18]}
def Tryz.P1:Fs:={L:=[4,5,6,47]}
def Tryz.P2:Fs:={L:=[3,4,5],LL:=[111,113,115],cq:=[(32,[0,1,2,4,6,3,5,7,8,9,10,11,12,13])]}
def Tryz.P3:Fs:={}
def Tryz.P4:Fs:={L:=[2,3],LL:=[40,41,43,51,53,55,69,70,72],cq:=[(6,[2,4,0,1,3,5,6,7,8,9,10,12,14,16,11,13,15,17,18,19,20,21]),(11,[2,4,0,1,3,5,6,7,8])]}
def Tryz.P5:Fs:={L:=[1,5,6]}
def Tryz.P6:Fs:={L:=[13]}
def Tryz.P7:Fs:={L:=[3,6,7,27],LL:=[15,18,25],cq:=[(2,[0,3,5,1,2,4,6,7,8,9]),(3,[0,1,2,3,4,5,6])]}
def Tryz.zY:Fs:={L:=[3]}
theorem Tryz.vg:iW zY Tryz.f129 2=true:=by kernel_rfl
def Tryz.P8:Fs:={cq:=[(5,[0,1,2,3,5,6,7,4,8,9,10,11,12]),(9,[0,1,2,4,5,6,7,9,10,11,12,3,8,13,14,15,16,17,18,19,20,22,23,24,25,26,21,27,28,29]),(12,[0,1,2,3,4,6,7,8,9,5,10,11,12,13,14,15,16,17])]}
def Tryz.P9:Fs:={}
def Tryz.Qa:Fs:={L:=[1,2,3,16]}
def Tryz.Qb:Fs:={L:=[4,5],LL:=[25,30,45,50],cq:=[(6,[0,1,3,6,8,2,4,7,9,5,10,11,12]),(11,[0,1,3,6,8,2,4,7,9,5,10,11,12])]}
def Tryz.Qc:Fs:={L:=[1,2],LL:=[4,7,11],trees:=[(1,(.one 0 (.one 3 (.one 7 (.one 1 (.one 4 (.one 8 (.alt 2 (.alt 5 (.one 6 N_) (.alt 6 (.one 5 N_) .kA)) (.alt 6 (.one 2 (.one 5 N_)) .kA)))))))))]}
def Tryz.Qd:Fs:={L:=[4,5,7,8,10]}
def Tryz.Qe:Fs:={L:=[5,6,8,9,12],LL:=[14,20,21,23,28,46,48,52,53,55,56,57],cq:=[(1,[0,2,1,3,4,5,6,9,11,7,8,10,12,13,15,14,16,17,18]),(7,[0,1,3,2,4,5,6,7,10,8,9,11,12,13,14,15,16,17])]}
def Tryz.Qf:Fs:={L:=[1]}
def Tryz.Qg:Fs:={L:=[2]}
def Tryz.Qh:Fs:={L:=[6]}
def Tryz.Qi:Fs:={L:=[1,2]}
def Tryz.Qj:Fs:={L:=[4,5]}
def Tryz.Qk:Fs:={L:=[4,5,7,8,10,11,14],LL:=[54,55,57,58,59],cq:=[(11,[2,0,1,3,4,5,6,7,8])]}
def Tryz.Ql:Fs:={L:=[1,2],LL:=[4,6,9],cq:=[(1,[0,2,5,1,3,6,4,7,8,9])]}
def Tryz.Qm:Fs:={L:=[1]}
def Tryz.Qn:Fs:={cq:=[(9,[0,1,2,3,4,5,6,7,8,9])]}
def Tryz.Qo:Fs:={}
def Tryz.Qp:Fs:={cq:=[(3,[0,1,2,3,4,7,8,9,10,11,5,6,12,13])]}
def Tryz.Qq:Fs:={L:=[4,5,10],LL:=[24,26,27],cq:=[(6,[0,2,6,7,8,1,3,4,9,5,10,11])]}
def Tryz.Qr:Fs:={L:=[2,3]}
def Tryz.Qs:Fs:={L:=[1,11]}
def Tryz.Qt:Fs:={}
def Tryz.Qu:Fs:={L:=[7,8,9,10]}
def Tryz.Qv:Fs:={}
def Tryz.Qw:Fs:={L:=[3]}
def Tryz.Qx:Fs:={}
def Tryz.Qy:Fs:={}
def Tryz.Qz:Fs:={L:=[5,6,7]}
def Tryz.QA:Fs:={L:=[5]}
def Tryz.QB:Fs:={}
def Tryz.QC:Fs:={cq:=[(6,[0,1,2,4,5,6,3,7,8])]}
def Tryz.QD:Fs:={L:=[4,5,6,42]}
def Tryz.QE:Fs:={L:=[3,5]}
def Tryz.QF:Fs:={L:=[2,3,4,18],LL:=[16],cq:=[(5,[0,1,2,3,4,5,6])]}
def Tryz.QG:Fs:={}
def Tryz.QH:Fs:={L:=[2]}
def Tryz.QI:Fs:={L:=[5]}
def Tryz.QJ:Fs:={L:=[2,3],LL:=[56,58],cq:=[(9,[0,2,4,1,3,5,6,7,8])]}
def Tryz.QK:Fs:={L:=[5]}
def Tryz.QL:Fs:={L:=[3,4,5]}
def Tryz.QM:Fs:={L:=[2,3],LL:=[28,33],cq:=[(6,[0,2,5,7,1,3,6,8,4,9,10])]}
def Tryz.QN:Fs:={L:=[2]}
def Tryz.DU:Fs:={L:=[3,125],LL:=[17,64,86],cq:=[(3,[0,1,2,4,3,5,6]),(10,[0,1,2,3,5,6,4,7,8]),(12,[0,1,2,4,5,6,8,9,3,7,10,11]),(15,[0,1,2,3,5,6,7,10,4,8,9,11,12,13,14,15]),(16,[0,1,2,3,4,6,7,8,10,11,5,9,12,13,14,15,16,17,18])],trees:=[(6,(.one 1 (.one 2 (.one 3 (.one 5 (.one 6 (.one 7 (.one 10 (.alt 0 (.alt 4 J_ (.alt 8 (.one 9 (.one 11 (.one 4 M_))) .kA)) (.alt 4 (.alt 0 J_ (.alt 8 (.one 9 (.one 11 L_)) .kA)) (.alt 8 (.one 9 (.one 11 (.alt 0 (.one 4 M_) (.alt 4 L_ .kA)))) .kA)))))))))))],M:=[225]}
theorem Tryz.Bl:iW DU Tryz.f185 2=true:=by kernel_rfl
def Tryz.QO:Fs:={L:=[3]}
def Tryz.QS:Fs:={}
def Tryz.QT:Fs:={cq:=[(1,[0,1,2,3,5,6,7,8,4,9,10,11,12,13])]}
def Tryz.QU:Fs:={L:=[3]}
def Tryz.QV:Fs:={L:=[3,5,82],LL:=[31,42],cq:=[(8,[0,1,2,3,5,6,4,7,8,9])],trees:=[(10,(.one 0 (.one 1 (.one 2 (.one 4 (.one 6 (.one 5 H_)))))))],M:=[223,224]}
def Tryz.JJ:Fs:={L:=[3]}
theorem Tryz.Is:iW JJ Tryz.f191 2=true:=by kernel_rfl
def Tryz.QW:Fs:={L:=[1,12]}
def Tryz.QX:Fs:={L:=[4,6],LL:=[27],cq:=[(7,[0,1,3,4,5,8,9,10,2,6,7,11,12,13])]}
def Tryz.GF:Fs:={L:=[3,4,5,6,27],LL:=[34,35,38,47,49],cq:=[(8,[0,3,4,6,1,2,5,7,8,9,10,11,12,13,14,15,16]),(9,[1,3,7,0,2,4,5,6,8,9,10,11,12])]}
theorem Tryz.DV:iW GF Tryz.f198 3=true:=by kernel_rfl
def Tryz.QY:Fs:={L:=[4,5,6,11,13,15,17],LL:=[112,115,118,128,132,135],cq:=[(21,[1,2,5,9,0,3,6,4,7,8,10,11,12,13,14]),(23,[0,2,3,4,7,1,5,8,6,9,10,11,12,13,14,15,16])]}
def Tryz.QZ:Fs:={L:=[4,5,6,9],LL:=[30,32,34,46,48,50,76,78],cq:=[(8,[1,3,0,2,4,5,6,7,8,9,10,11]),(12,[0,2,4,6,7,1,3,5,8,9,10,11]),(20,[1,3,4,0,2,5,6,7,8,9,10,11])]}
def Tryz.Q0:Fs:={L:=[1]}
def Tryz.Q1:Fs:={L:=[4,5,7],LL:=[10,17,18,20],cq:=[(1,[0,2,1,3,4,5,6,7,10,12,8,9,11,13,14,15,16,17])]}
def Tryz.Q2:Fs:={L:=[2,3,4],LL:=[7,10],trees:=[(1,(.one 1 (.one 4 (.one 2 (.one 5 (.one 6 (.alt 0 H_ (.alt 7 (.one 0 P_) .kA))))))))]}
def Tryz.Q3:Fs:={L:=[4,5]}
def Tryz.Q4:Fs:={L:=[4,5,6,7,8],LL:=[51,63,67,76,113],cq:=[(11,[0,2,3,4,6,1,5,7,8]),(14,[0,1,2,3,4,6,7,5,8,9,10,11,12,13,15,16,14,17,18,19,20]),(23,[0,1,3,4,2,5,6,7])]}
def Tryz.Q5:Fs:={L:=[1]}
def Tryz.JK:Fs:={L:=[4,5,7],LL:=[18,19,21],cq:=[(3,[0,3,5,1,2,4,6,7,8,9])]}
theorem Tryz.It:iW JK Tryz.f209 4=true:=by kernel_rfl
def Tryz.Q6:Fs:={L:=[2,3,4],LL:=[6,9],trees:=[(1,(.one 0 (.one 3 (.one 1 (.one 4 (.one 5 (.alt 2 (.one 6 (.one 7 (.one 8 .nil))) (.alt 6 (.one 2 (.one 7 (.one 8 .nil))) .kA))))))))]}
def Tryz.Q7:Fs:={}
def Tryz.Q8:Fs:={L:=[3,9]}
def Tryz.Q9:Fs:={L:=[5,6,12,15,16,44,82,118,153,165]}
def Tryz.Ra:Fs:={L:=[2,3,20]}
def Tryz.Rb:Fs:={}
def Tryz.Rc:Fs:={}
def Tryz.JL:Fs:={L:=[2,5]}
theorem Tryz.Iu:iW JL Tryz.f223 1=true:=by kernel_rfl
def Tryz.Rd:Fs:={L:=[3,22],LL:=[21],cq:=[(4,[0,1,2,3,5,6,4,7,8,9,10])]}
def Tryz.GG:Fs:={cq:=[(8,[0,1,2,3,4,5,7,6,8,9,10,11,12,13,14,15,16,17,18,19,20,21,22,23,25,26,27,29,24,28,30,31,32,33,34])]}
theorem Tryz.DW:iW GG Tryz.f225 3=true:=by kernel_rfl
def Tryz.Re:Fs:={L:=[3]}
def Tryz.Rf:Fs:={}
def Tryz.Rg:Fs:={L:=[5,29],LL:=[23],cq:=[(5,[0,2,3,4,1,5,6,7,8,9,10])]}
def Tryz.Rh:Fs:={L:=[5,31]}
def Tryz.Ri:Fs:={}
def Tryz.JM:Fs:={L:=[6],LL:=[49],cq:=[(9,[0,1,2,4,5,3,6,7])]}
theorem Tryz.Iv:iW JM Tryz.f231 3=true:=by kernel_rfl
def Tryz.JN:Fs:={L:=[8],LL:=[36],cq:=[(6,[0,1,2,4,5,3,6,7])]}
theorem Tryz.Iw:iW JN Tryz.f232 4=true:=by kernel_rfl
def Tryz.Rj:Fs:={cq:=[(2,[0,1,2,3,4,5,6,8,9,10,11,13,16,17,7,12,14,15,18,19,20])]}
def Tryz.JO:Fs:={L:=[3,6,26]}
theorem Tryz.Ix:iW JO Tryz.f236 3=true:=by kernel_rfl
def Tryz.Rk:Fs:={}
def Tryz.DX:Fs:={L:=[3,4,5],LL:=[39,42,54,57,59,62,85,89],cq:=[(20,[0,3,1,4,2,5,6,7,8]),(24,[0,3,5,8,1,2,4,6,9,7,10,11,12,13,14]),(31,[0,4,6,1,2,5,7,8,9,3,10,11,12])]}
theorem Tryz.Bm:iW DX Tryz.f238 3=true:=by kernel_rfl
def Tryz.DY:Fs:={L:=[4,5],LL:=[66,68,71,79,80,81],cq:=[(13,[0,1,3,4,2,5,6,7,8]),(22,[0,2,5,1,3,6,4,7,8,9,10,11]),(25,[0,1,2,3,4,5,6,7,8,9,10])]}
theorem Tryz.Bn:iW DY Tryz.f239 4=true:=by kernel_rfl
def Tryz.Rm:Fs:={}
def Tryz.Rn:Fs:={}
def Tryz.Ro:Fs:={L:=[4,5,6,7,8]}
def Tryz.Rp:Fs:={L:=[2]}
def Tryz.Rq:Fs:={}
def Tryz.Rr:Fs:={L:=[2]}
def Tryz.JP:Fs:={L:=[3,22],LL:=[21],cq:=[(2,[0,1,2,3,4,6,7,5,8,9,10,11,12])]}
theorem Tryz.Iy:iW JP Tryz.f261 2=true:=by kernel_rfl
def Tryz.Rs:Fs:={}
def Tryz.Rt:Fs:={}
def Tryz.Ru:Fs:={L:=[4,7,9],LL:=[22,27,30,34,35],cq:=[(4,[0,2,3,4,8,1,6,5,7,9]),(5,[0,1,2,3,4,7,8,9,5,6,10,11,12])]}
def Tryz.Rv:Fs:={}
def Tryz.Rw:Fs:={L:=[4,5,6,7],LL:=[28,32,37,51,55,60],cq:=[(7,[0,2,3,4,6,9,11,1,5,7,10,12,8,13,14,15,16]),(11,[0,2,3,4,6,9,11,1,5,7,10,12,8,13,14,15,16])]}
def Tryz.Rx:Fs:={}
def Tryz.Ry:Fs:={}
def cy (x:Int):Prop:=-9223372036854775808<=x/\x<=9223372036854775807
structure dB where
 bJ:Int
 fields:List Int
structure cz where
 told:Bool
 locals:List Int
 stack:List Int
structure dc where
 kind:Int
 a:Int
 b:Int
structure je where
 lo:Int
 hi:Int
 to:Int
 cls:Int
structure bT where
 cls:Int
 eu:Int
 args:List Int
 out:Int
 locals:Int
 code:List dc
 aF:List cz
 catches:List je
structure aI where
 ak:List dB
 methods:List bT
structure Vl where
 ref:Bool
 n:Int
structure Ob where
 cls:Int
 bp:List Vl
structure cJ where
 aG:Int
 pc:Int
 locals:List Vl
 stack:List Vl
structure cr where
 objs:List Ob
 aq:List cJ
 said:List Int
 steps:Int
 fin:Int
 out:Vl
theorem sC {h:Heap} {b:Nat}:∀ {n off:Nat} {vs:List Value},dP h b off n=some vs->vs.length=n
 | 0,_,vs,hr=>by simp only[dP,v_]at hr;subst hr;rfl
 | n+1,off,vs,hr=>by
  simp only[dP]at hr;split at hr
  ·rename_i v r c a;simp only[v_]at hr;subst hr;simp[sC a]
  cases hr
theorem aJ {h:Heap} {b:Nat}:∀ {n off:Nat} {vs:List Value},dP h b off n=some vs->∀ {i:Nat} {v:Value},vs[i]? = some v->rd h b (off+i)=some v
 | 0,_,vs,hr,i,v,hv=>by simp only[dP,v_]at hr;subst hr;simp at hv
 | n+1,off,vs,hr,i,v,hv=>by
  simp only[dP]at hr;split at hr
  ·rename_i x r a c;simp only[v_]at hr;subst hr;cases i with
   | zero=>simp at hv;subst hv;exact a
   | succ i =>
    have:=aJ c (i:=i) (v:=v) (by simpa using hv);rw[show off+(i+1)=off+1+i by omega];exact this
  cases hr
def Row {f:Type} (d:Nat) (R:Heap->List Value->f->Prop) (h:Heap) (v:Value) (l:List f):Prop :=
 l.length<=140737488351232/\∃ p c,v=.slice p l.length c/\l.length<=c/\(l=[]\/∃ b a,p=some ⟨b,a,none⟩/\∀ i x,l[i]? = some x->∃ e,dP h b (a+i*d) d=some e/\R h e x)
theorem dD {h a:Heap} (c:h.le a) {b n off:Nat} {vs:List Value} (d:dP h b off n=some vs):dP a b off n=some vs:=eT c n off vs d
theorem Row.le {c:Type} {b:Nat} {R:Heap->List Value->c->Prop} {h a:Heap} {v:Value} {l:List c} (q:h.le a) (j:∀ vs x,R h vs x->R a vs x) (s:Row b R h v l):Row b R a v l:=by
 obtain⟨f,y,e,rfl,g,i⟩:=s;refine⟨f,y,e,rfl,g,i.imp id ?_⟩;rintro⟨d,w,rfl,t⟩;refine⟨d,w,rfl,λu x p=>?_⟩;obtain⟨vs,m,o⟩:=t u x p;exact⟨vs,dD q m,j _ _ o⟩
theorem Row.get {f:Type} {a:Nat} {R:Heap->List Value->f->Prop} {h:Heap} {p:Option Addr} {n c:Nat} {l:List f} (o:Row a R h (.slice p n c) l) {i:Nat} (e:i < l.length) :
  ∃ b off vs,p=some ⟨b,off,none⟩/\dP h b (off+i*a) a=some vs/\R h vs l[i]:=by
 obtain⟨_,t,s,d,_,g⟩:=o;simp only[Z_]at d;obtain⟨rfl,rfl,rfl⟩:=d;rcases g with rfl|⟨b,off,rfl,q⟩
 ·simp at e
 obtain⟨vs,j,m⟩:=q i l[i] (by simp[e]);exact⟨b,off,vs,rfl,j,m⟩
theorem Row.len {a:Type} {g:Nat} {R:Heap->List Value->a->Prop} {h:Heap} {v:Value} {l:List a} (f:Row g R h v l):∃ p c,v=.slice p l.length c/\l.length<=c/\l.length<=140737488351232:=by
 obtain⟨b,p,c,e,d,_⟩:=f;exact⟨p,c,e,d,b⟩
def Mm (_:Heap) (vs:List Value) (x:Int):Prop:=vs=[.int .i64 x]/\cy x
abbrev bP:=Row 1 Mm
def uK (h:Heap) (vs:List Value) (c:dB):Prop:=∃ f,vs=[.int .i64 c.bJ,f]/\cy c.bJ/\bP h f c.fields
def gR (h:Heap) (vs:List Value) (s:cz):Prop:=∃ l k,vs=[.bool s.told,l,k]/\bP h l s.locals/\bP h k s.stack
def yg (_:Heap) (vs:List Value) (x:dc):Prop:=vs=[.int .i64 x.kind,.int .i64 x.a,.int .i64 x.b]/\cy x.kind/\cy x.a/\cy x.b
def zZ (_:Heap) (vs:List Value) (x:je):Prop:=vs=[.int .i64 x.lo,.int .i64 x.hi,.int .i64 x.to,.int .i64 x.cls]/\cy x.lo/\cy x.hi/\cy x.to/\cy x.cls
def dz (h:Heap) (vs:List Value) (m:bT):Prop:=∃ a c s k,vs=[.int .i64 m.cls,.int .i64 m.eu,a,.int .i64 m.out,.int .i64 m.locals,c,s,k]/\cy m.cls/\cy m.eu/\cy m.out/\cy m.locals /\
 bP h a m.args/\Row 3 yg h c m.code/\Row 3 gR h s m.aF/\Row 4 zZ h k m.catches
def dn (h:Heap) (vs:List Value) (u:aI):Prop:=∃ c m,vs=[c,m]/\Row 2 uK h c u.ak/\Row 8 dz h m u.methods
theorem bP.le {h a:Heap} {v:Value} {l:List Int} (b:h.le a) (c:bP h v l):bP a v l:=Row.le b (λ_ _ d=>d) c
theorem uK.le {h a:Heap} (g:h.le a) {vs:List Value} {c:dB} (i:uK h vs c):uK a vs c:=by
 obtain⟨f,b,d,e⟩:=i;exact⟨f,b,d,e.le g⟩
theorem gR.le {h a:Heap} (b:h.le a) {vs:List Value} {c:cz} (j:gR h vs c):gR a vs c:=by
 obtain⟨g,i,d,e,f⟩:=j;exact⟨g,i,d,e.le b,f.le b⟩
theorem dz.le {h d:Heap} (a:h.le d) {vs:List Value} {c:bT} (t:dz h vs c):dz d vs c:=by
 obtain⟨e,c,u,k,f,g,i,j,m,o,p,q,s⟩:=t;exact⟨e,c,u,k,f,g,i,j,m,o.le a,p.le a (λ_ _ b=>b),q.le a (λ_ _ b=>b.le a),s.le a (λ_ _ b=>b)⟩
theorem dn.le {h d:Heap} (a:h.le d) {vs:List Value} {c:aI} (i:dn h vs c):dn d vs c:=by
 obtain⟨c,m,e,f,g⟩:=i;exact⟨c,m,e,f.le a (λ_ _ b=>b.le a),g.le a (λ_ _ b=>b.le a)⟩
set_option maxRecDepth 100000
def isWord (n:Int):Bool:=decide (-128<=n/\n<=127)
@[irreducible] def w8 (n:Int):Int:=(n+128) % 256-128
def gI (c a b:Int):Int × Bool :=
 if isWord a/\isWord b then
  if c=1 then (w8 (a+b),true)else if c=2 then (w8 (a-b),true)else if c=3 then (w8 (a*b),true)
  else if c=4/\b≠0 then (w8 (a.tdiv b),true)else (0,false)
 else (0,false)
def Rz (x:Int × Bool):Value:=.tuple #[.int .i64 x.1,.bool x.2]
theorem Bo (n:Int) : -128<=w8 n/\w8 n<=127:=by unfold w8;omega
theorem eU {n:Int}:isWord n=true↔-128<=n/\n<=127:=by simp[isWord]
theorem yh {c a b:Int} (h:c < 1\/4 < c\/isWord a=false\/isWord b=false\/(c=4/\b=0)):gI c a b=(0,false):=by
 unfold gI;split
 ·rename_i e;have d:c≠1/\c≠2/\c≠3/\¬(c=4/\b≠0):=by
   rcases h with h|h|h|h|h
   ·omega
   ·omega
   ·rw[e.1]at h;cases h
   ·rw[e.2]at h;cases h
   omega
  rw[if_neg d.1,if_neg d.2.1,if_neg d.2.2.1,if_neg d.2.2.2]
 rfl
theorem tD (n:Int) (h:Heap):Pure prog 98 [.int .i64 n] h (.bool (isWord n)):=by
 refine gF ax func98 Xa U rfl ?_;conv=>whnf
 apply aC<;>intro a;all_goals conv=>whnf
 all_goals exact⟨by simp[isWord,a],rfl⟩
theorem dW (n c b:Int) (h:Heap):Pure prog 52 [.int .i64 n,.int .i64 c,.int .i64 b] h (.bool (decide (c<=n/\n<=b))):=by
 refine gF ax func52 WG U rfl ?_;conv=>whnf
 apply aC<;>intro a;all_goals conv=>whnf
 all_goals exact⟨by simp[a],rfl⟩
theorem tE (n:Int) (h:Heap):Pure prog 80 [.int .i64 n] h (.bool (isWord n)):=by
 refine gF ax func80 WX U rfl ?_;conv=>whnf
 refine au (dW _ _ _ _) ?_;conv=>whnf
 exact⟨rfl,rfl⟩
theorem JQ {a b:Int} (g : -128<=a/\a<=127) (h : -128<=b/\b<=127) : -16384<=a*b/\a*b<=16384:=by
 have c:0<=(128-a)*(128-b):=Int.mul_nonneg O O;have d:0<=(128+a)*(128+b):=Int.mul_nonneg O O;have e:0<=(128-a)*(128+b):=Int.mul_nonneg O O;have f:0<=(128+a)*(128-b):=Int.mul_nonneg O O;constructor<;>grind
theorem DZ {a b:Int} (c : -128<=a/\a<=127) : -128<=a.tdiv b/\a.tdiv b<=128:=by
 have h:(a.tdiv b).natAbs<=a.natAbs:=by rw[Int.natAbs_tdiv];exact Nat.div_le_self _ _
 omega
theorem Ck {c a b:Int} (d:isWord a=true) (e:isWord b=true):gI c a b=if c=1 then (w8 (a+b),true)else if c=2 then (w8 (a-b),true)else if c=3 then (w8 (a*b),true)
  else if c=4/\b≠0 then (w8 (a.tdiv b),true)else (0,false):=by unfold gI;rw[if_pos ⟨d,e⟩]
theorem GH (n:Int) : -255<=n.tmod 256/\n.tmod 256<=255/\(n.tmod 256-n) % 256=0:=by
 rcases Int.lt_or_le n 0 with h|h
 ·have a:n.tmod 256 = - ((-n) % 256):=by
   rw[show n = - (-n)by omega,Int.neg_tmod,Int.tmod_eq_emod_of_nonneg O];simp
  omega
 rw[Int.tmod_eq_emod_of_nonneg h];omega
theorem z5 (n:Int) (h:Heap):Pure prog 268 [.int .i64 n] h (.int .i64 (w8 n)):=by
 refine gF ax func268 Rv U rfl ?_;have b:=GH n;conv=>whnf
 refine ay ?_;conv=>whnf
 repeat' ((first
  | apply aC<;>intro a
  | refine av ?_)<;>(conv=>whnf))
 all_goals exact⟨by unfold w8;congr 1;omega,rfl⟩
theorem D0 (g a b:Int) (h:Heap):Pure prog 259 [.int .i64 g,.int .i64 a,.int .i64 b] h (Rz (gI g a b)):=by
 refine gF ax func259 Rq U rfl ?_;conv=>whnf
 refine au (tE _ _) ?_;conv=>whnf
 apply dG<;>intro c;all_goals conv=>whnf
 ·exact⟨by rw[yh (by simp[*])];rfl,rfl⟩
 refine au (tE _ _) ?_;conv=>whnf
 apply dG<;>intro d;all_goals conv=>whnf
 ·exact⟨by rw[yh (by simp[*])];rfl,rfl⟩
 have f:=eU.1 c;have i:=eU.1 d;have j:=JQ f i;have m:=DZ (b:=b) f;repeat' ((first
  | apply aC<;>intro e
  | apply aX<;>intro e
  | refine av ?_
  | refine ay ?_
  | refine au (z5 _ _) ?_)<;>(conv=>whnf))
 all_goals (refine⟨?_,rfl⟩;rw[Ck c d];simp[Rz, *])
set_option maxHeartbeats 4000000
noncomputable def tf (p:Prop):Value:=.bool (@decide p (Classical.propDecidable p))
theorem eg {p:Prop} (a:p):tf p=.bool true:=by unfold tf;rw[@decide_eq_true p (Classical.propDecidable p) a]
theorem cD {p:Prop} (a:¬p):tf p=.bool false:=by unfold tf;rw[@decide_eq_false p (Classical.propDecidable p) a]
theorem uL {p q:Prop} {_:Decidable q} (b:p↔q):tf p=.bool (decide q):=by
 by_cases a:q
 ·rw[eg (b.2 a),decide_eq_true a]
 rw[cD (λx=>a (b.1 x)),decide_eq_false a]
theorem dH {p:Prop} (a:p):Value.bool true=tf p:=(eg a).symm
theorem bU {p:Prop} (a:¬p):Value.bool false=tf p:=(cD a).symm
theorem fA {p q:Prop} {_:Decidable q} (a:p↔q):Value.bool (decide q)=tf p:=(uL a).symm
def ee (n t:Int):Value :=
 if t=0 then .iface 228 (.agg #[])else if t=1 then .iface 229 (.agg #[])else if t=2 then .iface 230 (.agg #[])
 else if t=3 then .iface 232 (.agg #[.bool false])else if t=4 then .iface 232 (.agg #[.bool true])
 else if 8<=t/\t < 8+n then .iface 234 (.agg #[.int .i64 (t-8)])else .nilIface
theorem pG (n t:Int) (h:Heap) (c:0<=n/\n<=140737488351232) (b:cy t):Pure prog 157 [.int .i64 n,.int .i64 t] h (ee n t):=by
 obtain⟨t0,t1⟩:=b;refine gF ax func157 Qt U rfl ?_;conv=>whnf
 repeat' ((first
  | apply aC<;>intro a
  | refine av ?_)<;>conv=>whnf)
 all_goals exact⟨by simp[ee, *];try omega,rfl⟩
def bL (n t:Int):Prop:=t=1\/t=3\/t=4\/(8<=t/\t < 8+n)
theorem mF (n t:Int) (h:Heap) (e:0<=n/\n<=140737488351232) (f:cy t):Pure prog 162 [.int .i64 n,.int .i64 t] h (tf (bL n t)):=by
 refine gF ax func162 Qx U rfl ?_;have c:=pG n t h e f;have a:∀ v,ee n t=v->Pure prog 157 [.int .i64 n,.int .i64 t] h v:=by rintro v rfl;exact c
 have d:t=0\/t=1\/t=2\/t=3\/t=4\/(8<=t/\t < 8+n)\/(t≠0/\t≠1/\t≠2/\t≠3/\t≠4/\¬(8<=t/\t < 8+n)):=by omega
 conv=>whnf
 rcases d with rfl|rfl|rfl|rfl|rfl|b|⟨b,g,i,j,m,o⟩
 ·refine au (a (.iface 228 (.agg #[])) (by simp[ee])) ?_;conv=>whnf
  refine eJ rfl (λw=>rfl) ?_;conv=>whnf
  refine eJ rfl (λw=>rfl) ?_;conv=>whnf
  refine eJ rfl (λw=>rfl) ?_;conv=>whnf
  exact⟨by rw[cD];unfold bL;omega,rfl⟩
 ·refine au (a (.iface 229 (.agg #[])) (by simp[ee])) ?_;conv=>whnf
  refine eJ rfl (λw=>rfl) ?_;conv=>whnf
  refine eJ rfl (λw=>rfl) ?_;conv=>whnf
  refine eJ rfl (λw=>rfl) ?_;conv=>whnf
  exact⟨by rw[eg];unfold bL;omega,rfl⟩
 ·refine au (a (.iface 230 (.agg #[])) (by simp[ee])) ?_;conv=>whnf
  refine eJ rfl (λw=>rfl) ?_;conv=>whnf
  refine eJ rfl (λw=>rfl) ?_;conv=>whnf
  refine eJ rfl (λw=>rfl) ?_;conv=>whnf
  exact⟨by rw[cD];unfold bL;omega,rfl⟩
 ·refine au (a (.iface 232 (.agg #[.bool false])) (by simp[ee])) ?_;conv=>whnf
  refine eJ rfl (λw=>rfl) ?_;conv=>whnf
  refine eJ rfl (λw=>rfl) ?_;conv=>whnf
  refine eJ rfl (λw=>rfl) ?_;conv=>whnf
  exact⟨by rw[eg];unfold bL;omega,rfl⟩
 ·refine au (a (.iface 232 (.agg #[.bool true])) (by simp[ee])) ?_;conv=>whnf
  refine eJ rfl (λw=>rfl) ?_;conv=>whnf
  refine eJ rfl (λw=>rfl) ?_;conv=>whnf
  refine eJ rfl (λw=>rfl) ?_;conv=>whnf
  exact⟨by rw[eg];unfold bL;omega,rfl⟩
 ·refine au (a (.iface 234 (.agg #[.int .i64 (t-8)])) (by simp only[ee];(repeat' split)<;>first|rfl|(exfalso;omega))) ?_;conv=>whnf
  refine eJ rfl (λw=>rfl) ?_;conv=>whnf
  refine eJ rfl (λw=>rfl) ?_;conv=>whnf
  refine eJ rfl (λw=>rfl) ?_;conv=>whnf
  exact⟨by rw[eg];unfold bL;omega,rfl⟩
 refine au (a .nilIface (by simp[ee, *])) ?_;conv=>whnf
 refine eJ rfl (λw=>rfl) ?_;conv=>whnf
 refine eJ rfl (λw=>rfl) ?_;conv=>whnf
 refine eJ rfl (λw=>rfl) ?_;conv=>whnf
 exact⟨by rw[cD];unfold bL;omega,rfl⟩
theorem kI (p:Option Addr) (n c:Nat) (x:Int) (h:Heap):Pure prog 163 [.slice p n c,.int .i64 x] h (tf (0<=x/\x < n)):=by
 refine gF ax func163 Qy U rfl ?_;conv=>whnf
 apply aC<;>intro a;all_goals conv=>whnf
 ·exact⟨by rw[uL (q:=x < n)];omega,rfl⟩
 exact⟨by rw[cD];omega,rfl⟩
def bB (cs:List dB) (c:Int):Int:=match cs[c.toNat]? with
 | some x=>x.bJ
 | none=>-1
theorem js {cs:List dB} {i:Nat} (a:i < cs.length):bB cs i=cs[i].bJ:=by simp[bB,a]
def fJ (n:Nat) (l:List Int):Prop:=∀ t∈l,bL n t
def tF (n:Nat) (i:Nat) (c:dB):Prop:=fJ n c.fields/\(i=0->c.bJ = -1/\c.fields=[])/\(i=1->c.bJ=0/\c.fields=[1])/\(1 < i->0<=c.bJ/\c.bJ < i)/\c.fields.length<=2
def bX (cs:List dB):Prop:=2<=cs.length/\cs.length<=5/\∀ i (a:i < cs.length),tF cs.length i cs[i]
abbrev eP:=Row 2 uK
theorem eP.at {h:Heap} {p:Option Addr} {n c:Nat} {cs:List dB} (m:eP h (.slice p n c) cs) {i:Nat} (g:i < cs.length) :
  ∃ b off q k d,p=some ⟨b,off,none⟩/\dP h b (off+i*2) 2=some [.int .i64 cs[i].bJ,.slice q k d]/\rd h b (off+i*2)=some (.int .i64 cs[i].bJ)/\rd h b (off+i*2+1)=some (.slice q k d)/\cy cs[i].bJ/\bP h (.slice q k d) cs[i].fields/\k=cs[i].fields.length:=by
 obtain⟨b,off,s,j,a,o,rfl,f,e⟩:=m.get g;obtain⟨q,d,rfl,_,_⟩:=e.len;exact⟨b,off,q,_,d,j,a,aJ a (i:=0) rfl,aJ a (i:=1) rfl,f,e,rfl⟩
theorem D1 {l:List Int} {x:Int} (b:l.length=1) (a:l[0]=x):l=[x]:=by
 match l,b,a with
 | [y],_,a=>simp at a;rw[a]
theorem yj (p:Option Addr) (n c:Nat) (cs:List dB) (h:Heap) (s:eP h (.slice p n c) cs):Pure prog 90 [.slice p n c] h (tf (bX cs)):=by
 obtain rfl:n=cs.length:=by obtain⟨_,_,E,_⟩:=s.len;injection E
 have e:cs.length<=140737488351232:=by obtain⟨_,_,_,_,E⟩:=s.len;omega
 refine gF ax func90 W2 U rfl ?_;conv=>whnf
 apply aC<;>intro T;all_goals conv=>whnf
 ·exact⟨by rw[cD];rintro⟨C,_⟩;omega,rfl⟩
 apply aC<;>intro C;all_goals conv=>whnf
 ·exact⟨by rw[cD];rintro⟨_,u,_⟩;omega,rfl⟩
 obtain⟨t,y,q0,k0,d0,q,a1,G,H,a4,a5,I⟩:=s.at (i:=0) O;obtain⟨b',z6,q1,k1,d1,A,J,B,b3,b4,K,L⟩:=s.at (i:=1) O;rw[q]at A;simp only[v_,Addr.mk.injEq,and_true]at A;obtain⟨rfl,rfl⟩:=A;subst q;refine ay ?_;conv=>whnf
 refine ptr ?_;conv=>whnf
 refine ld G ?_;conv=>whnf
 apply aX<;>intro u;all_goals conv=>whnf
 ·exact⟨by rw[cD];rintro⟨_,_,v⟩;exact u ((v 0 O).2.1 rfl).1,rfl⟩
 refine ay ?_;conv=>whnf
 refine ptr ?_;conv=>whnf
 refine ld H ?_;conv=>whnf
 apply aX<;>intro v;all_goals conv=>whnf
 ·exact⟨by rw[cD];rintro⟨_,_,f⟩;refine v ?_;have:=((f 0 O).2.1 rfl).2;rw[I,this];rfl,rfl⟩
 refine ay ?_;conv=>whnf
 refine ptr ?_;conv=>whnf
 refine dZ J ?_;conv=>whnf
 apply aX<;>intro f;all_goals conv=>whnf
 ·exact⟨by rw[cD];rintro⟨_,_,w⟩;exact f ((w 1 O).2.2.1 rfl).1,rfl⟩
 apply aX<;>intro w;all_goals conv=>whnf
 ·exact⟨by rw[cD];rintro⟨_,_,g⟩;refine w ?_;have:=((g 1 O).2.2.1 rfl).2;rw[L,this];rfl,rfl⟩
 obtain⟨Xc,Xd,vs,hq,M,N,c3⟩:=K.get (i:=0) O;subst N;refine ay ?_;conv=>whnf
 refine aL hq ?_;conv=>whnf
 refine ld (aJ M (i:=0) rfl) ?_;conv=>whnf
 apply aX<;>intro g;all_goals conv=>whnf
 ·exact⟨by rw[cD];rintro⟨_,_,o⟩;refine g ?_;have:=((o 1 O).2.2.1 rfl).2;simp[this],rfl⟩
 have W:cs[1].fields=[1]:=D1 O g;have V:cs[0].fields=[]:=List.eq_nil_of_length_eq_zero O;refine eF [0,48,49,50] [] (λi:Nat=>i<=cs.length/\∀ j (b:j < cs.length),j < i->(1 < j->0<=cs[j].bJ/\cs[j].bJ < j)/\cs[j].fields.length<=2/\fJ cs.length cs[j].fields) (λi=>cs.length-i)
  (λi=>([.v (.slice (some ⟨t,y,none⟩) cs.length c),.v (.slice (some ⟨t,y,none⟩) cs.length c),.v (.int .i64 cs.length),.v (.int .i64 i)],[],h)) 0 ⟨O,λj b h=>O⟩ rfl ?_
 rintro i ⟨hi,x⟩;conv=>whnf
 apply aC<;>intro hlt;all_goals conv=>whnf
 ·obtain⟨B,RA,aa,k,P,q,Q,e2,e3,e4,R,e6⟩:=s.at (i:=i) O;simp only[v_,Addr.mk.injEq,and_true]at q;obtain⟨rfl,rfl⟩:=q;refine ay ?_;conv=>whnf
  refine ptr ?_;conv=>whnf
  refine dZ (by simpa using Q) ?_;conv=>whnf
  have bad:¬((1 < i->0<=cs[i].bJ/\cs[i].bJ < i)/\cs[i].fields.length<=2/\fJ cs.length cs[i].fields)->.bool false=tf (bX cs):=by
   intro o;rw[cD];rintro⟨_,_,a⟩;have z:=a i O;exact o ⟨z.2.2.2.1,z.2.2.2.2,z.1⟩
  by_cases D:1 < i->0<=cs[i].bJ/\cs[i].bJ < i
  ·repeat' ((first
    | apply aC<;>intro _)<;>conv=>whnf)
   all_goals first
    | (exfalso;omega)
    | exact⟨bad (by rintro⟨_,d,_⟩;omega),rfl⟩
    | skip
   all_goals
    refine eF [0,48,49,50,73,74,75] [] (λm:Nat=>m<=k/\∀ l (e:l < cs[i].fields.length),l < m->bL cs.length cs[i].fields[l]) (λm=>k-m)
     (λm=>([.v (.slice (some ⟨t,y,none⟩) cs.length c),.v (.slice (some ⟨t,y,none⟩) cs.length c),.v (.int .i64 cs.length),.v (.int .i64 i),.v (.slice aa k P),.v (.int .i64 k),.v (.int .i64 m)],[],h)) 0 ⟨O,λl e h=>O⟩ rfl ?_
    rintro m ⟨hm,F⟩;conv=>whnf
    apply aC<;>intro o;all_goals conv=>whnf
    ·have Xe:m < cs[i].fields.length:=by omega
     have S:=R.get Xe;obtain⟨B,RA,vs,Cl,f1,f2,f3⟩:=S;subst f2;refine ay ?_;conv=>whnf
     refine aL Cl ?_;conv=>whnf
     refine ld (by simpa using aJ f1 (i:=0) rfl) ?_;conv=>whnf
     refine au (mF _ _ _ O f3) ?_;conv=>whnf
     apply aX<;>intro d;all_goals conv=>whnf
     ·exact⟨bad (by rintro⟨_,_,a⟩;exact d (a cs[i].fields[m] (x_ _))),rfl⟩
     refine av ?_;conv=>whnf
     refine cL (m+1) ⟨O,λl e Y=>?_⟩ O rfl;rcases Nat.lt_succ_iff_lt_or_eq.1 Y with a|rfl
     ·exact F l e a
     exact d
    refine av ?_;conv=>whnf
    refine cL (i+1) ⟨O,λj b X=>?_⟩ O rfl;rcases Nat.lt_succ_iff_lt_or_eq.1 X with a|rfl
    ·exact x j b a
    refine⟨D,O,λab ht=>?_⟩;obtain⟨l,e,rfl⟩:=List.mem_iff_getElem.1 ht;exact F l e O
  repeat' ((first
   | apply aC<;>intro _)<;>conv=>whnf)
  all_goals first
   | exact⟨bad (λd=>D d.1),rfl⟩
   | (exfalso;omega)
 exact⟨by
  rw[eg];refine⟨O,O,λj b=>⟨(x j b O).2.2,?_,?_,(x j b O).1,(x j b O).2.1⟩⟩
  ·rintro rfl;exact⟨u,V⟩
  rintro rfl;exact⟨f,W⟩,rfl⟩
def Cm (cs:List dB) (b:Int):Nat->Int->Bool
 | 0,_=>false
 | k+1,a=>decide (0<=a)&&(decide (a=b)||Cm cs b k (bB cs a))
def up (cs:List dB) (a b:Int):Bool:=Cm cs b (a.toNat+1) a
theorem bX.bJ {cs:List dB} (ok:bX cs) {a:Int} (h0:0<=a) (f:a < cs.length) : -1<=bB cs a/\bB cs a < a:=by
 have c:a.toNat < cs.length:=by omega
 have d:=js c;have e:bB cs a=bB cs (a.toNat:Int):=by rw[Int.toNat_of_nonneg h0]
 have b:=ok.2.2 a.toNat c;rw[e,d];rcases Nat.lt_trichotomy a.toNat 1 with h|h|h
 ·have:=(b.2.1 O).1;omega
 ·have:=(b.2.2.1 h).1;omega
 have:=b.2.2.2.1 h;omega
theorem yl {cs:List dB} (ok:bX cs) (b:Int):∀(k:Nat) (a:Int),a < cs.length->a.toNat < k->Cm cs b k a=Cm cs b (k+1) a
 | 0,a,_,h=>by omega
 | k+1,a,hl,h=>by
  rw[Cm,Cm];by_cases c:0<=a
  ·have f:=ok.bJ c hl;by_cases e:0<=bB cs a
   ·rw[yl ok b k (bB cs a) O O]
   have d:∀ k,Cm cs b k (bB cs a)=false:=by
    intro k;cases k with
    | zero=>rfl
    | succ k=>rw[Cm];simp[e]
   rw[d,d]
  simp[c]
theorem Bp {cs:List dB} (ok:bX cs) (b:Int) (a:Int) (c:a < cs.length):∀(j:Nat),Cm cs b (a.toNat+1+j) a=up cs a b
 | 0=>rfl
 | j+1=>by
  rw[<-Bp ok b a c j];exact(yl ok b (a.toNat+1+j) a c O).symm
theorem oG {cs:List dB} {a b:Int} (h:a < 0):up cs a b=false:=by
 unfold up;rw[Cm];simp[show ¬0<=a by omega]
theorem fK {cs:List dB} (ok:bX cs) {a b:Int} (h0:0<=a) (d:a < cs.length):up cs a b=(decide (a=b)||up cs (bB cs a) b):=by
 have e:=ok.bJ h0 d;conv=>lhs;unfold up
 rw[Cm];simp only[h0,decide_true,Bool.true_and];by_cases c:0<=bB cs a
 ·have:=Bp ok b (bB cs a) O (a.toNat-(bB cs a).toNat-1);rw[show(bB cs a).toNat+1+(a.toNat-(bB cs a).toNat-1)=a.toNat by omega]at this;rw[this]
 rw[oG O];have:Cm cs b a.toNat (bB cs a)=false:=by
  cases a.toNat with
  | zero=>rfl
  | succ k=>rw[Cm];simp[c]
 rw[this]
theorem z7 {cs:List dB} (ok:bX cs):∀(k:Nat) {a b:Int},a.toNat < k->a < cs.length->a < b->up cs a b=false
 | 0,a,b,h,_,_=>by omega
 | k+1,a,b,h,hl,hb=>by
  by_cases c:0<=a
  ·have e:=ok.bJ c hl;rw[fK ok c hl];by_cases d:0<=bB cs a
   ·rw[z7 ok k O O O];simp[show a≠b by omega]
   rw[oG O];simp[show a≠b by omega]
  exact oG O
theorem eP.n {h:Heap} {p:Option Addr} {n c:Nat} {cs:List dB} (b:eP h (.slice p n c) cs):n=cs.length:=by obtain⟨_,_,a,_⟩:=b.len;injection a
theorem qN (p:Option Addr) (n c:Nat) (cs:List dB) (a b:Int) (h:Heap) (j:eP h (.slice p n c) cs) (ok:bX cs) (h0 : -1<=a) (q:a < cs.length) :
  Pure prog 166 [.slice p n c,.int .i64 a,.int .i64 b] h (.bool (up cs a b)):=by
 have w:=j.n;refine gF ax func166 QB U rfl ?_;conv=>whnf
 refine eF [0,2,7] [] (λx:Int=>-1<=x/\x < cs.length/\up cs x b=up cs a b) (λx=>(x+1).toNat)
  (λx=>([.v (.slice p n c),.v (.int .i64 b),.v (.int .i64 x)],[],h)) a ⟨h0,q,rfl⟩ rfl ?_
 rintro x ⟨B,f,g⟩;conv=>whnf
 apply aC<;>intro d;all_goals conv=>whnf
 ·apply aC<;>intro e;all_goals conv=>whnf
  ·exact⟨by rw[<-g,fK ok d f];simp[e],rfl⟩
  have i:x.toNat < cs.length:=by omega
  have m:=j.at i;obtain⟨u,z,A,k,v,s,_,o,_,_,_,_⟩:=m;have y:=ok.bJ d f;have t:bB cs x=cs[x.toNat].bJ:=by simp[bB,i]
  refine ay ?_;conv=>whnf
  refine aL s ?_;conv=>whnf
  refine ld o ?_;conv=>whnf
  refine cL (cs[x.toNat].bJ) ⟨O,O,?_⟩ O rfl;rw[<-g,fK ok d f,t];simp[e]
 exact⟨by rw[<-g,oG O],rfl⟩
theorem oH (p:Option Addr) (n c:Nat) (cs:List dB) (a b:Int) (h:Heap) (g:eP h (.slice p n c) cs) (ok:bX cs) (h0 : -1<=a) (q:a < cs.length) (w:0<=b) :
  Pure prog 86 [.slice p n c,.int .i64 a,.int .i64 b] h (.bool (up cs a b)):=by
 have y:=g.n;refine gF ax func86 W0 U rfl ?_;conv=>whnf
 refine eF [0,1,2] [] (λx:Int=>-1<=x/\x < cs.length/\up cs x b=up cs a b) (λx=>(x+1).toNat)
  (λx=>([.v (.slice p n c),.v (.int .i64 x),.v (.int .i64 b)],[],h)) a ⟨h0,q,rfl⟩ rfl ?_
 rintro x ⟨C,d,i⟩;conv=>whnf
 apply aC<;>intro o;all_goals conv=>whnf
 ·have f:x.toNat < cs.length:=by omega
  have j:=g.at f;obtain⟨u,A,B,k,v,s,_,m,_,_,_,_⟩:=j;have z:=ok.bJ (a:=x) O d;have t:bB cs x=cs[x.toNat].bJ:=by simp[bB,f]
  refine ay ?_;conv=>whnf
  refine aL s ?_;conv=>whnf
  refine ld m ?_;conv=>whnf
  refine cL (cs[x.toNat].bJ) ⟨O,O,?_⟩ O rfl;rw[<-i,fK ok (a:=x) O d,t];simp[show x≠b by omega]
 refine⟨?_,rfl⟩;rw[<-i];by_cases e:x=b
 ·subst e;rw[fK ok O d];simp
 rw[z7 ok (x.toNat+1) O d O];simp[e]
def bY (sz:Nat) (h:Heap) (v:Value) (xs:List (List Value)) (B:List Nat):Prop :=
 (∀ x∈xs,x.length=sz)/\((v=.slice none 0 0/\xs=[]/\B=[])\/∃ b c rest t,v=.slice (some ⟨b,0,none⟩) xs.length c/\xs.length<=c/\h b=some (.cells (xs.flatten++rest).toArray t (0,0))/\(xs.flatten++rest).length=c*sz/\B=[b])
theorem cE {sz:Nat}:∀ {xs:List (List Value)},(∀ x∈xs,x.length=sz)->xs.flatten.length=xs.length*sz
 | [],_=>by simp
 | x::xs,h=>by
  simp only[List.flatten_cons,U_,List.length_cons];rw[cE (λy a=>h y (List.mem_cons_of_mem _ a)),h x List.mem_cons_self,Nat.succ_mul];omega
theorem fE (vs:List Value):∀(a r:List Value),vs.length<=r.length->eH (a++r) a.length vs=a++vs++r.drop vs.length:=by
 induction vs with
 | nil=>intro a r _;simp[eH]
 | cons v vs d =>
  intro a r c;cases r with
  | nil=>simp at c
  | cons y r =>
   simp only[eH];have:Gs (a++y::r) a.length v=(a++[v])++r:=by
    rw[qG];simp
   rw[this];have b:=d (a++[v]) r (by simpa using c);simp only[U_,List.length_cons,List.length_nil,Nat.zero_add]at b;rw[b];simp
theorem bA {h:Heap} {b:Nat} {cs:List Value} {t:TypeId} {fz:Nat × Nat} (a:h b=some (.cells cs.toArray t fz)):∀(k off:Nat),off+k<=cs.length->dP h b off k=some ((cs.drop off).take k)
 | 0,off,_=>by simp[dP]
 | k+1,off,hl=>by
  have c:off < cs.length:=by omega
  have d:rd h b off=some cs[off]:=by simp[rd,a,c]
  simp only[dP,d,bA a k (off+1) O];rw[List.drop_eq_getElem_cons c,List.take_succ_cons]
theorem Heap.aT {h0 h:Heap} {b:Nat} {o:Obj} (e:h0.le h) (d:h0 b=none):h0.le (h.set b o):=by
 intro c x a;have f:c≠b:=by rintro rfl;rw[d]at a;cases a
 simp only[Heap.set,f,if_false];exact e c x a
theorem dh {bytes sz:Nat} {zero:List Value} {w:TypeId} {h0 h:Heap} {p:Option Addr} {n cap:Nat} {xs ys:List (List Value)} {B:List Nat} {m:Nat} {vs:List Value} {K:Value->Heap->Prop}
  (A:bY sz h (.slice p n cap) xs B) (D:∀ b∈B,h0 b=none) (hle:h0.le h) (V:vs=ys.flatten) (f:m=ys.length) (M:∀ y∈ys,y.length=sz) (G:dI vs=true) (N:zero.length=sz)
  (E:(xs.length+ys.length)*bytes<=2 ^ 44) (F:xs.length+ys.length<=2 ^ 44)
  (t:∀ Q s B',h0.le s->bY sz s Q (xs++ys) B'->(∀ b∈B',h0 b=none)->(∀ b,b ∉ B->h b≠none->s b=h b)->(∀ b∈B',b∈B\/h b=none)->K Q s):App bytes sz zero w h p n cap m vs K:=by
 subst V f;obtain⟨L,A⟩:=A;have q:∀ x∈xs++ys,x.length=sz:=by
  intro x f;rcases u_.1 f with f|f
  ·exact L x f
  exact M x f
 have T:=cE M;have z:=cE L;rw[lG];unfold vV;rcases A with ⟨i,rfl,rfl⟩|⟨b,v,rest,P,i,H,d,S,rfl⟩
 ·simp only[Z_]at i;obtain⟨rfl,rfl,rfl⟩:=i;refine⟨λe=>⟨G,?_⟩,λe=>⟨by simpa using E,by simpa using F,[],⟨rfl,rfl⟩,λb v d H=>?_⟩⟩
  ·have W:ys=[]:=List.eq_nil_of_length_eq_zero O;subst W;exact⟨rfl,t _ _ [] hle ⟨q,.inl ⟨rfl,rfl,rfl⟩⟩ Z (λ_ _ _=>rfl) Z⟩
  refine t _ _ [b] (Heap.aT hle ?_) ⟨q,.inr ⟨b,v,(List.replicate (v-(0+ys.length)) zero).flatten,w,Z,by simpa using H,by simp[Heap.set],?_,rfl⟩⟩ ?_ ?_ ?_
  ·cases j:h0 b with
   | none=>rfl
   | some x=>rw[hle b x j]at d;cases d
  ·rw[U_,pz,N,List.nil_append,T,Nat.zero_add,<-Nat.add_mul];congr 1
   omega
  ·intro a c;simp only[V_]at c;subst c;cases j:h0 a with
   | none=>rfl
   | some x=>rw[hle a x j]at d;cases d
  ·intro a _ o;have:a≠b:=by rintro rfl;exact o d
   simp[Heap.set,this]
  intro a c;simp only[V_]at c;subst c;exact .inr d
 simp only[Z_]at i;obtain⟨rfl,rfl,rfl⟩:=i;have I:∀ b,h b=none->h0 b=none:=by
  intro b d;cases j:h0 b with
  | none=>rfl
  | some x=>rw[hle b x j]at d;cases d
 have Y:(xs.flatten++rest).length=xs.length*sz+rest.length:=by rw[U_,z]
 refine⟨λe=>⟨G,(xs.flatten++rest).toArray,P,d,?_,?_⟩,λe=>⟨E,F,xs.flatten,?_,λa C c R=>?_⟩⟩
 ·have:=Nat.mul_le_mul_right sz e;rw[Nat.add_mul]at this;simp only[List.size_toArray];omega
 ·have J:eH (xs.flatten++rest) (0+xs.length*sz) ys.flatten=(xs++ys).flatten++rest.drop ys.flatten.length:=by
   rw[Nat.zero_add,<-z,fE]
   ·simp
   have:=Nat.mul_le_mul_right sz e;rw[Nat.add_mul]at this;omega
  have X:ys.flatten.length<=rest.length:=by
   have:=Nat.mul_le_mul_right sz e;rw[Nat.add_mul]at this;omega
  refine t _ _ [b] (Heap.aT hle (D b Z)) ⟨q,.inr ⟨b,cap,rest.drop ys.flatten.length,P,Z,by simpa using e,?_,?_,rfl⟩⟩ ?_ ?_ ?_
  ·simp only[Heap.set,if_true];rw[<-J]
  ·rw[<-J,rE];exact S
  ·intro a c;exact D a c
  ·intro a o _;have:a≠b:=by rintro rfl;exact o Z
   simp[Heap.set,this]
  intro a c;exact .inl c
 ·show dP h b 0 (xs.length*sz)=some xs.flatten;rw[bA d _ _ O,<-z];simp
 refine t _ _ [a] (Heap.aT hle (I a c)) ⟨q,.inr ⟨a,C,(List.replicate (C-(xs.length+ys.length)) zero).flatten,w,Z,by simpa using R,by simp[Heap.set],?_,rfl⟩⟩ ?_ ?_ ?_
 ·rw[U_,pz,N,cE q,U_,<-Nat.add_mul];congr 1
  omega
 ·intro u g;simp only[V_]at g;subst g;exact I _ c
 ·intro u _ o;have:u≠a:=by rintro rfl;exact o c
  simp[Heap.set,this]
 intro u g;simp only[V_]at g;subst g;exact .inr c
theorem D2 {h:Heap} {b:Nat}:∀(vs:List Value) (off:Nat),(∀ i v,vs[i]? = some v->rd h b (off+i)=some v)->dP h b off vs.length=some vs
 | [],off,_=>rfl
 | v::vs,off,hx=>by
  have a:=hx 0 v rfl;have c:=D2 vs (off+1) (λi w d=>by have:=hx (i+1) w (by simpa using d);rw[show off+1+i=off+(i+1)by omega];exact this);simp only[List.length_cons,dP];rw[Nat.add_zero]at a;rw[a,c]
def bD (x:Int):List Value:=[.int .i64 x]
theorem dj:∀ l:List Int,(l.map bD).flatten=l.map (.int .i64)
 | []=>rfl
 | x::l=>by simp[bD,dj l]
theorem cR:∀ l:List Int,dI (l.map (.int .i64))=true
 | []=>rfl
 | x::l=>by simp[dI,jl,cR l]
theorem mG {h:Heap} {p:Option Addr} {n c:Nat} {l:List Int} {K:List Value->Prop} (o:bP h (.slice p n c) l) (d:K (l.map (.int .i64))):Lo h p (n*1) K:=by
 obtain⟨_,u,t,a,_,g⟩:=o;simp only[Z_]at a;obtain⟨rfl,rfl,rfl⟩:=a;rw[oZ];unfold zD;rcases g with rfl|⟨b,f,rfl,q⟩
 ·exact .inl ⟨.inr Z,d⟩
 refine .inr ⟨b,f,_,rfl,?_,d⟩;have:=D2 (h:=h) (b:=b) (l.map (.int .i64)) f (λi v e=>by
  simp only[List.getElem?_map,Option.map_eq_some_iff]at e;obtain⟨x,s,rfl⟩:=e;obtain⟨w,j,m,_⟩:=q i x s;subst m;have:=aJ j (i:=0) rfl;simpa using this)
 simpa using this
abbrev dM (h:Heap) (v:Value) (l:List Int) (B:List Nat):Prop:=bY 1 h v (l.map bD) B
theorem bY.form {sz:Nat} {h:Heap} {v:Value} {xs:List (List Value)} {B:List Nat} (b:bY sz h v xs B):∃ p c,v=.slice p xs.length c/\xs.length<=c:=by
 obtain⟨_,⟨rfl,rfl,_⟩|⟨d,c,rest,t,rfl,a,_⟩⟩:=b
 ·exact⟨none,0,rfl,Nat.le_refl _⟩
 exact⟨_,c,rfl,a⟩
def fZ (cs:List dB) (c:Int):List Int:=match cs[c.toNat]? with
 | some x=>x.fields
 | none=>[]
def ym (cs:List dB):Nat->Int->List Int
 | 0,_=>[]
 | k+1,c=>if c<=0 then []else ym cs k (bB cs c)++fZ cs c
def bV (cs:List dB) (c:Int):List Int:=ym cs c.toNat c
theorem yo {cs:List dB} {c:Int} (h:c<=0) (k:Nat):ym cs k c=[]:=by
 cases k with
 | zero=>rfl
 | succ k=>rw[ym,if_pos h]
theorem ez {cs:List dB} {c:Int} (h:c<=0):bV cs c=[]:=yo h _
theorem tG {cs:List dB} (ok:bX cs):∀(k:Nat) (c:Int),c < cs.length->c.toNat<=k->ym cs k c=bV cs c
 | 0,c,_,h=>by rw[ez O];rfl
 | k+1,c,hl,h=>by
  by_cases b:c<=0
  ·rw[yo b,ez b]
  have e:=ok.bJ (a:=c) O hl;unfold bV;obtain⟨j,d⟩:∃ j,c.toNat=j+1:=⟨c.toNat-1,O⟩
  rw[d,ym,ym,if_neg b,if_neg b,tG ok k _ O O,tG ok j _ O O]
theorem jf {cs:List dB} (ok:bX cs) {c:Int} (h0:0 < c) (d:c < cs.length):bV cs c=bV cs (bB cs c)++fZ cs c:=by
 have e:=ok.bJ (a:=c) O d;conv=>lhs;unfold bV
 obtain⟨j,b⟩:∃ j,c.toNat=j+1:=⟨c.toNat-1,O⟩
 rw[b,ym,if_neg O,tG ok j _ O O]
theorem pH {cs:List dB} (ok:bX cs):∀(k:Nat) (c:Int),c < cs.length->c.toNat<=k->(bV cs c).length<=2*k
 | 0,c,_,h=>by rw[ez O];simp
 | k+1,c,hl,h=>by
  by_cases d:c<=0
  ·rw[ez d];simp
  have f:=ok.bJ (a:=c) O hl;have g:=pH ok k (bB cs c) O O;rw[jf ok O hl,U_];have b:c.toNat < cs.length:=by omega
  have e:=(ok.2.2 c.toNat b).2.2.2.2;have:(fZ cs c).length<=2:=by simp only[fZ,b,w_];exact e
  omega
theorem gh:∀(k:Nat) (p:Option Addr) (n c:Nat) (cs:List dB) (x:Int) (h:Heap),eP h (.slice p n c) cs->bX cs->0<=x->x < cs.length->x.toNat < k ->
  bq prog 153 [.slice p n c,.int .i64 x] h λv e=>h.le e/\∃ B,dM e v (bV cs x) B/\∀ b∈B,h b=none
 | 0,_,_,_,_,_,_,_,_,_,_,hk=>by omega
 | k+1,p,n,c,cs,x,h,hr,ok,h0,hl,hk=>by
  have P:=hr.n;refine bE ax func153 Qp U rfl ?_;conv=>whnf
  apply aC<;>intro C;all_goals conv=>whnf
  ·exact⟨z_ h,[],⟨by rw[ez O];simp,.inl ⟨rfl,by rw[ez O];rfl,rfl⟩⟩,Z⟩
  have a:x.toNat < cs.length:=by omega
  have q:=hr.at a;obtain⟨F,S,V,R,H,j,_,s,t,_,u,w⟩:=q;have Q:=ok.bJ h0 hl;have d:bB cs x=cs[x.toNat].bJ:=by simp[bB,a]
  refine ay ?_;conv=>whnf
  refine aL j ?_;conv=>whnf
  refine ay ?_;conv=>whnf
  refine aL j ?_;conv=>whnf
  refine ld t ?_;conv=>whnf
  refine ld s ?_;conv=>whnf
  have m:=gh k p n c cs (bB cs x) h hr ok (by
   have:=ok.2.1;have f:=ok.2.2 x.toNat a;rw[d];rcases Nat.lt_trichotomy x.toNat 1 with g|g|g
   ·omega
   ·rw[(f.2.2.1 g).1];omega
   exact(f.2.2.2.1 g).1) O O
  rw[d]at m;refine cP m ?_;rintro v e ⟨hle,B,i,D⟩;refine⟨hle,?_⟩;obtain⟨T,G,rfl,L⟩:=i.form;conv=>whnf
  have E:=pH ok x.toNat (bB cs x) O O;have N:cs[x.toNat].fields.length<=2:=(ok.2.2 x.toNat a).2.2.2.2;rw[d]at E;have M:=ok.2.1;refine mG (u.le hle) ?_;conv=>whnf
  refine dh (ys:=cs[x.toNat].fields.map bD) i D hle (dj _).symm (by simp[w]) (by simp[bD]) (cR _) rfl (by simp;omega) (by simp;omega) ?_;intro W K o y z A I J;conv=>whnf
  refine⟨y,o,?_,A⟩;rw[jf ok O hl,d];unfold dM;rw[List.map_append];simpa [fZ,a]using z
theorem jt:∀(k:Nat) (p:Option Addr) (n c:Nat) (cs:List dB) (x:Int) (h:Heap),eP h (.slice p n c) cs->bX cs->0<=x->x < cs.length->x.toNat < k ->
  bq prog 82 [.slice p n c,.int .i64 x] h λv e=>h.le e/\∃ B,dM e v (bV cs x) B/\∀ b∈B,h b=none
 | 0,_,_,_,_,_,_,_,_,_,_,hk=>by omega
 | k+1,p,n,c,cs,x,h,hr,ok,h0,hl,hk=>by
  have Q:=hr.n;refine bE ax func82 WY U rfl ?_;conv=>whnf
  apply aC<;>intro D;all_goals conv=>whnf
  ·refine new λb f=>?_;conv=>whnf
   refine⟨Heap.wv _ f,[b],⟨by rw[ez O];simp,.inr ⟨b,0,[],3,by rw[ez O];rfl,by rw[ez O];simp,by rw[ez O];simp[Heap.set,sg],by rw[ez O];simp,rfl⟩⟩,by simpa using f⟩
  have a:x.toNat < cs.length:=by omega
  have s:=hr.at a;obtain⟨G,T,W,S,I,m,_,t,u,_,w,y⟩:=s;have R:=ok.bJ h0 hl;have d:bB cs x=cs[x.toNat].bJ:=by simp[bB,a]
  refine ay ?_;conv=>whnf
  refine aL m ?_;conv=>whnf
  refine ay ?_;conv=>whnf
  refine aL m ?_;conv=>whnf
  refine ld u ?_;conv=>whnf
  refine ld t ?_;conv=>whnf
  have o:=jt k p n c cs (bB cs x) h hr ok (by
   have:=ok.2.1;have i:=ok.2.2 x.toNat a;rw[d];rcases Nat.lt_trichotomy x.toNat 1 with g|g|g
   ·omega
   ·rw[(i.2.2.1 g).1];omega
   exact(i.2.2.2.1 g).1) O O
  rw[d]at o;refine cP o ?_;rintro v e ⟨hle,B,j,E⟩;refine⟨hle,?_⟩;obtain⟨V,H,rfl,M⟩:=j.form;conv=>whnf
  have F:=pH ok x.toNat (bB cs x) O O;have P:cs[x.toNat].fields.length<=2:=(ok.2.2 x.toNat a).2.2.2.2;rw[d]at F;have N:=ok.2.1;refine mG (w.le hle) ?_;conv=>whnf
  refine dh (ys:=cs[x.toNat].fields.map bD) j E hle (dj _).symm (by simp[y]) (by simp[bD]) (cR _) rfl (by simp;omega) (by simp;omega) ?_;intro X L q z A C J K;conv=>whnf
  refine⟨z,q,?_,C⟩;rw[jf ok O hl,d];unfold dM;rw[List.map_append];simpa [fZ,a]using A
theorem nD (p:Option Addr) (n c:Nat) (t:Int) (h:Heap) (e:n<=140737488351232):Pure prog 221 [.slice p n c,.int .i64 t] h (tf (bL n t)):=by
 refine gF ax func221 Rb U rfl ?_;conv=>whnf
 apply aC<;>intro a;all_goals conv=>whnf
 ·exact⟨by rw[eg];unfold bL;omega,rfl⟩
 apply aC<;>intro b;all_goals conv=>whnf
 ·exact⟨by rw[eg];unfold bL;omega,rfl⟩
 apply aC<;>intro d;all_goals conv=>whnf
 ·exact⟨by rw[eg];unfold bL;omega,rfl⟩
 refine av ?_;conv=>whnf
 refine av ?_;conv=>whnf
 refine au (dW _ _ _ _) ?_;conv=>whnf
 exact⟨(uL (by unfold bL;omega)).symm,rfl⟩
theorem Cn (p:Option Addr) (n c:Nat) (cs:List dB) (i:Nat) (h:Heap) (t:eP h (.slice p n c) cs) (G:i < cs.length) :
  Pure prog 179 [.slice p n c,.int .i64 i] h (tf (tF cs.length i cs[i])):=by
 have f:n<=140737488351232:=by obtain⟨_,_,v,_,g⟩:=t.len;injection v with _ v _;omega
 obtain rfl:=t.n;have B:=t.at G;obtain⟨P,W,M,k,A,J,C,Q,R,S,j,u⟩:=B;have T:=j.1;refine gF ax func179 QI U rfl ?_;conv=>whnf
 refine ay ?_;conv=>whnf
 refine aL J ?_;conv=>whnf
 refine dZ C ?_;conv=>whnf
 refine eF [0,1,5,6] [5] (λm:Nat=>m<=k/\∀ l (f:l < cs[i].fields.length),l < m->bL cs.length cs[i].fields[l]) (λm=>k-m)
  (λm=>([.v (.slice p cs.length c),.v (.int .i64 i),.l 5 0,.v (.int .i64 m)],[some [.int .i64 cs[i].bJ,.slice M k A]],h)) 0 ⟨O,λl f h=>O⟩ rfl ?_
 rintro m ⟨V,y⟩;conv=>whnf
 apply aC<;>intro E;all_goals conv=>whnf
 ·have I:m < cs[i].fields.length:=by omega
  have o:=j.get I;obtain⟨z,L,N,s,f1,f2,f3⟩:=o;subst f2;refine ay ?_;conv=>whnf
  refine aL s ?_;conv=>whnf
  refine ld (aJ f1 (i:=0) rfl) ?_;conv=>whnf
  refine au (nD _ _ _ _ _ f) ?_;conv=>whnf
  apply aX<;>intro g;all_goals conv=>whnf
  ·exact⟨by rw[cD];intro b;exact g (b.1 _ (x_ _)),rfl⟩
  refine av ?_;conv=>whnf
  refine cL (m+1) ⟨O,λl f H=>?_⟩ O rfl;rcases Nat.lt_succ_iff_lt_or_eq.1 H with F|rfl
  ·exact y l f F
  exact g
 have q:fJ cs.length cs[i].fields:=by
  intro X K;obtain⟨l,f,rfl⟩:=List.mem_iff_getElem.1 K;exact y l f O
 apply aC<;>intro g;all_goals conv=>whnf
 ·apply aC<;>intro b;all_goals conv=>whnf
  ·refine⟨(uL ⟨λa=>?_,λa=>?_⟩).symm,rfl⟩
   ·have:=(a.2.1 O).2;simp[u,this]
   have w:cs[i].fields=[]:=List.eq_nil_of_length_eq_zero O;exact⟨q,λ_=>⟨b,w⟩,λ_=>O,λ_=>O,by simp[w]⟩
  exact⟨by rw[cD];intro a;exact b (a.2.1 O).1,rfl⟩
 apply aC<;>intro b;all_goals conv=>whnf
 ·apply aC<;>intro a;all_goals conv=>whnf
  ·apply aC<;>intro d;all_goals conv=>whnf
   ·have D:0 < cs[i].fields.length:=by omega
    have o:=j.get D;obtain⟨z,L,N,s,f1,f2,f3⟩:=o;subst f2;refine ay ?_;conv=>whnf
    refine aL s ?_;conv=>whnf
    refine ld (aJ f1 (i:=0) rfl) ?_;conv=>whnf
    refine⟨(uL ⟨λe=>?_,λe=>?_⟩).symm,rfl⟩
    ·have:=(e.2.2.1 O).2;simp[this]
    have x:cs[i].fields=[1]:=D1 O e;exact⟨q,λ_=>O,λ_=>⟨a,x⟩,λ_=>O,by simp[x]⟩
   exact⟨by rw[cD];intro e;refine d ?_;have:=(e.2.2.1 O).2;simp[u,this],rfl⟩
  exact⟨by rw[cD];intro e;exact a (e.2.2.1 O).1,rfl⟩
 refine av ?_;conv=>whnf
 refine au (dW _ _ _ _) ?_;conv=>whnf
 apply aC<;>intro a;all_goals conv=>whnf
 ·refine⟨(uL ⟨λd=>?_,λd=>?_⟩).symm,rfl⟩
  ·have:=d.2.2.2.2;omega
  exact⟨q,λ_=>O,λ_=>O,λ_=>O,O⟩
 exact⟨by rw[cD];intro d;refine a ?_;have:=d.2.2.2.1 O;omega,rfl⟩
theorem lQ (p:Option Addr) (n c:Nat) (cs:List dB) (h:Heap) (e:eP h (.slice p n c) cs):Pure prog 124 [.slice p n c] h (tf (bX cs)):=by
 have v:n<=140737488351232:=by obtain⟨_,_,g,_,d⟩:=e.len;injection g with _ g _;omega
 obtain rfl:=e.n;refine gF ax func124 P3 U rfl ?_;conv=>whnf
 refine au (dW _ _ _ _) ?_;conv=>whnf
 apply aX<;>intro o;all_goals conv=>whnf
 ·exact⟨by rw[cD];rintro⟨d,b,_⟩;omega,rfl⟩
 refine eF [0,3] [] (λi:Nat=>i<=cs.length/\∀ j (a:j < cs.length),j < i->tF cs.length j cs[j]) (λi=>cs.length-i)
  (λi=>([.v (.slice p cs.length c),.v (.int .i64 i)],[],h)) 0 ⟨O,λj a h=>O⟩ rfl ?_
 rintro i ⟨u,f⟩;conv=>whnf
 apply aC<;>intro d;all_goals conv=>whnf
 ·have m:i < cs.length:=by omega
  refine au (Cn p _ c cs i h e m) ?_;conv=>whnf
  apply aX<;>intro b;all_goals conv=>whnf
  ·exact⟨by rw[cD];rintro⟨_,_,s⟩;exact b (s i m),rfl⟩
  refine av ?_;conv=>whnf
  refine cL (i+1) ⟨O,λj a t=>?_⟩ O rfl;rcases Nat.lt_succ_iff_lt_or_eq.1 t with q|rfl
  ·exact f j a q
  exact b
 exact⟨by rw[eg];exact⟨O,O,λj a=>f j a O⟩,rfl⟩
def ej (n t:Int):Prop:=(0<=t/\t<=4)\/(8<=t/\t < 8+n)
theorem D3 {n t:Int} (h:¬ej n t):ee n t=.nilIface:=by
 unfold ej at h;simp only[ee];(repeat' split)<;>first|rfl|(exfalso;omega)
theorem Co {n t:Int} (h:ej n t):∃ T x,ee n t=.iface T x:=by
 unfold ej at h;simp only[ee];(repeat' split)<;>first|exact⟨_,_,rfl⟩|(exfalso;omega)
theorem yq (n t:Int) (h:Heap) (b:0<=n/\n<=140737488351232) (c:cy t):∃ v,Pure prog 157 [.int .i64 n,.int .i64 t] h v/\((¬ej n t/\v=.nilIface)\/(ej n t/\∃ T x,v=.iface T x)):=by
 refine⟨_,pG n t h b c,?_⟩;by_cases a:ej n t
 ·exact .inr ⟨a,Co a⟩
 exact .inl ⟨a,D3 a⟩
theorem yt (p:Option Addr) (n c:Nat) (cs:List dB) (t:Int) (h:Heap) (e:eP h (.slice p n c) cs):Pure prog 222 [.slice p n c,.int .i64 t] h (tf (bX cs/\ej cs.length t)):=by
 have j:n<=140737488351232:=by obtain⟨_,_,f,_,b⟩:=e.len;injection f with _ f _;omega
 obtain rfl:=e.n;refine gF ax func222 Rc U rfl ?_;conv=>whnf
 refine au (lQ p _ c cs h e) ?_;conv=>whnf
 apply aC<;>intro a;all_goals conv=>whnf
 ·apply aC<;>intro b;all_goals conv=>whnf
  ·exact⟨by rw[eg];exact⟨a,by unfold ej;omega⟩,rfl⟩
  apply aC<;>intro g;all_goals conv=>whnf
  ·exact⟨by rw[eg];exact⟨a,by unfold ej;omega⟩,rfl⟩
  refine au (nD p _ c t h j) ?_;conv=>whnf
  refine⟨?_,rfl⟩;by_cases d:bL cs.length t
  ·show tf _=_;rw[eg d,eg];refine⟨a,?_⟩;unfold bL at d;unfold ej;omega
  show tf _=_;rw[cD d,cD];rintro⟨_,i⟩;unfold bL at d;unfold ej at i;omega
 exact⟨by rw[cD];exact λb=>a b.1,rfl⟩
def mH (n:Nat) (a:Int) (s:cz):Prop :=
 (s.told=false/\s.locals=[]/\s.stack=[])\/(s.told=true/\(s.locals.length:Int)=a/\s.stack.length<=4/\(∀ t∈s.locals,ej n t)/\∀ t∈s.stack,t≠0/\ej n t)
theorem qO (p:Option Addr) (n c:Nat) (N:Int) (s:cz) (l k:Value) (h:Heap) (M:n<=140737488351232) (u:bP h l s.locals) (v:bP h k s.stack) :
  Pure prog 165 [.slice p n c,.int .i64 N,.agg #[.bool s.told,l,k]] h (tf (mH n N s)):=by
 obtain⟨X,d,b⟩:=s;simp only at u v;have b1:=u.1;have b2:=v.1;have f1:=u.len;have f2:=v.len;obtain⟨P,I,rfl,_,_⟩:=f1;obtain⟨Q,J,rfl,_,_⟩:=f2;refine gF ax func165 QA U rfl ?_;conv=>whnf
 cases X with
 | false =>
  conv=>whnf
  apply aC<;>intro g;all_goals conv=>whnf
  ·refine⟨(uL ⟨λq=>?_,λq=>?_⟩).symm,rfl⟩
   ·rcases q with ⟨_,_,a⟩|⟨a,_⟩
    ·simp only at a;simp[a]
    cases a
   exact .inl ⟨rfl,List.eq_nil_of_length_eq_zero (by simpa using g),List.eq_nil_of_length_eq_zero (by simpa using q)⟩
  refine⟨?_,rfl⟩;rw[cD];rintro(⟨_,a,_⟩|⟨a,_⟩)
  ·simp only at a;simp[a]at g
  cases a
 | true =>
  conv=>whnf
  apply aX<;>intro g;all_goals conv=>whnf
  ·refine⟨?_,rfl⟩;rw[cD];rintro(⟨a,_⟩|⟨_,a,_⟩)
   ·cases a
   exact g a
  apply aC<;>intro q;all_goals conv=>whnf
  ·refine⟨?_,rfl⟩;rw[cD];rintro(⟨a,_⟩|⟨_,_,a,_⟩)
   ·cases a
   simp only at a;omega
  refine eF [0,5,36,37,38] [5] (λm:Nat=>m<=d.length/\∀ i (e:i < d.length),i < m->ej n d[i]) (λm=>d.length-m)
   (λm=>([.v (.slice p n c),.l 5 0,.v (.slice P d.length I),.v (.int .i64 d.length),.v (.int .i64 m)],[some [.bool true,.slice P d.length I,.slice Q b.length J]],h)) 0 ⟨O,λl M h=>O⟩ rfl ?_
  rintro m ⟨V,K⟩;conv=>whnf
  apply aC<;>intro a;all_goals conv=>whnf
  ·have G:m < d.length:=by omega
   have z:=u.get G;obtain⟨R,W,vs,H,A,B,C⟩:=z;subst B;refine ay ?_;conv=>whnf
   refine aL H ?_;conv=>whnf
   refine ld (aJ A (i:=0) rfl) ?_;conv=>whnf
   have f:=yq n d[m] h O C;obtain⟨Y,f,⟨o,rfl⟩|⟨o,T,aa,rfl⟩⟩:=f
   ·refine au f ?_;conv=>whnf
    refine de (r:=.bool true) rfl rfl (λw=>rfl) (λw=>rfl) ?_;conv=>whnf
    refine⟨?_,rfl⟩;rw[cD];rintro(⟨t,_⟩|⟨_,_,_,t,_⟩)
    ·cases t
    exact o (t _ (x_ _))
   refine au f ?_;conv=>whnf
   refine de (r:=.bool false) rfl rfl (λw=>rfl) (λw=>rfl) ?_;conv=>whnf
   refine av ?_;conv=>whnf
   refine cL (m+1) ⟨O,λi e F=>?_⟩ O rfl;rcases Nat.lt_succ_iff_lt_or_eq.1 F with D|rfl
   ·exact K i e D
   exact o
  have S:∀ y∈d,ej n y:=by
   intro y x;obtain⟨i,e,rfl⟩:=List.mem_iff_getElem.1 x;exact K i e O
  refine eF [0,49,50,51] [] (λm:Nat=>m<=b.length/\∀ i (e:i < b.length),i < m->b[i]≠0/\ej n b[i]) (λm=>b.length-m)
   (λm=>([.v (.slice p n c),.v (.slice Q b.length J),.v (.int .i64 b.length),.v (.int .i64 m)],[],h)) 0 ⟨O,λl M h=>O⟩ rfl ?_
  rintro m ⟨V,L⟩;conv=>whnf
  apply aC<;>intro t;all_goals conv=>whnf
  ·have G:m < b.length:=by omega
   have z:=v.get G;obtain⟨R,W,vs,H,A,B,C⟩:=z;subst B;refine ay ?_;conv=>whnf
   refine aL H ?_;conv=>whnf
   refine ld (aJ A (i:=0) rfl) ?_;conv=>whnf
   apply aC<;>intro E;all_goals conv=>whnf
   ·refine⟨?_,rfl⟩;rw[cD];rintro(⟨j,_⟩|⟨_,_,_,_,j⟩)
    ·cases j
    exact(j _ (x_ _)).1 E
   have f:=yq n b[m] h O C;obtain⟨Y,f,⟨o,rfl⟩|⟨o,T,aa,rfl⟩⟩:=f
   ·refine au f ?_;conv=>whnf
    refine de (r:=.bool true) rfl rfl (λw=>rfl) (λw=>rfl) ?_;conv=>whnf
    refine⟨?_,rfl⟩;rw[cD];rintro(⟨j,_⟩|⟨_,_,_,_,j⟩)
    ·cases j
    exact o (j _ (x_ _)).2
   refine au f ?_;conv=>whnf
   refine de (r:=.bool false) rfl rfl (λw=>rfl) (λw=>rfl) ?_;conv=>whnf
   refine av ?_;conv=>whnf
   refine cL (m+1) ⟨O,λi e F=>?_⟩ O rfl;rcases Nat.lt_succ_iff_lt_or_eq.1 F with D|rfl
   ·exact L i e D
   exact⟨E,o⟩
  refine⟨?_,rfl⟩;rw[eg];refine .inr ⟨rfl,g,by simp only;omega,S,λy x=>?_⟩;change y∈b at x
  obtain⟨i,e,rfl⟩:=List.mem_iff_getElem.1 x;exact L i e O
theorem z8 (p:Option Addr) (n c:Nat) (cs:List dB) (L:Int) (s:cz) (l k:Value) (h:Heap) (y:eP h (.slice p n c) cs) (w:bP h l s.locals) (o:bP h k s.stack) :
  Pure prog 181 [.slice p n c,.int .i64 L,.agg #[.bool s.told,l,k]] h (tf (bX cs/\mH cs.length L s)):=by
 obtain rfl:=y.n;obtain⟨W,e,d⟩:=s;simp only at w o;have Y:=w.1;have b2:=o.1;have f1:=w.len;have f2:=o.len;obtain⟨M,H,rfl,_,_⟩:=f1;obtain⟨N,I,rfl,_,_⟩:=f2;refine gF ax func181 QK U rfl ?_;conv=>whnf
 refine au (lQ p _ c cs h y) ?_;conv=>whnf
 apply aX<;>intro q;all_goals conv=>whnf
 ·exact⟨by rw[cD];exact λo=>q o.1,rfl⟩
 cases W with
 | false =>
  conv=>whnf
  apply aC<;>intro f;all_goals conv=>whnf
  ·refine⟨(uL ⟨λt=>?_,λt=>?_⟩).symm,rfl⟩
   ·rcases t.2 with ⟨_,_,a⟩|⟨a,_⟩
    ·simp only at a;simp[a]
    cases a
   exact⟨q,.inl ⟨rfl,List.eq_nil_of_length_eq_zero (by simpa using f),List.eq_nil_of_length_eq_zero (by simpa using t)⟩⟩
  refine⟨?_,rfl⟩;rw[cD];rintro⟨_,⟨_,a,_⟩|⟨a,_⟩⟩
  ·simp only at a;simp[a]at f
  cases a
 | true =>
  conv=>whnf
  apply aX<;>intro f;all_goals conv=>whnf
  ·refine⟨?_,rfl⟩;rw[cD];rintro⟨_,⟨a,_⟩|⟨_,a,_⟩⟩
   ·cases a
   exact f a
  apply aC<;>intro t;all_goals conv=>whnf
  ·refine⟨?_,rfl⟩;rw[cD];rintro⟨_,⟨a,_⟩|⟨_,_,a,_⟩⟩
   ·cases a
   simp only at a;omega
  refine eF [0,5,7] [5] (λm:Nat=>m<=e.length/\∀ i (b:i < e.length),i < m->ej cs.length e[i]) (λm=>e.length-m)
   (λm=>([.v (.slice p cs.length c),.l 5 0,.v (.int .i64 m)],[some [.bool true,.slice M e.length H,.slice N d.length I]],h)) 0 ⟨O,λl S h=>O⟩ rfl ?_
  rintro m ⟨T,J⟩;conv=>whnf
  apply aC<;>intro a;all_goals conv=>whnf
  ·have G:m < e.length:=by omega
   have B:=w.get G;obtain⟨P,V,X,x,v,C,Q⟩:=B;subst C;refine ay ?_;conv=>whnf
   refine aL x ?_;conv=>whnf
   refine ld (aJ v (i:=0) rfl) ?_;conv=>whnf
   refine au (yt p _ c cs _ h y) ?_;conv=>whnf
   apply aX<;>intro u;all_goals conv=>whnf
   ·refine⟨?_,rfl⟩;rw[cD];rintro⟨_,⟨g,_⟩|⟨_,_,_,g,_⟩⟩
    ·cases g
    exact u ⟨q,g _ (x_ _)⟩
   refine av ?_;conv=>whnf
   refine cL (m+1) ⟨O,λi b F=>?_⟩ O rfl;rcases Nat.lt_succ_iff_lt_or_eq.1 F with D|rfl
   ·exact J i b D
   exact u.2
  have R:∀ A∈e,ej cs.length A:=by
   intro A z;obtain⟨i,b,rfl⟩:=List.mem_iff_getElem.1 z;exact J i b O
  refine eF [0,5,8] [5] (λm:Nat=>m<=d.length/\∀ i (b:i < d.length),i < m->d[i]≠0/\ej cs.length d[i]) (λm=>d.length-m)
   (λm=>([.v (.slice p cs.length c),.l 5 0,.v (.int .i64 m)],[some [.bool true,.slice M e.length H,.slice N d.length I]],h)) 0 ⟨O,λl S h=>O⟩ rfl ?_
  rintro m ⟨T,K⟩;conv=>whnf
  apply aC<;>intro u;all_goals conv=>whnf
  ·have G:m < d.length:=by omega
   have B:=o.get G;obtain⟨P,V,X,x,v,C,Q⟩:=B;subst C;refine ay ?_;conv=>whnf
   refine aL x ?_;conv=>whnf
   refine ld (aJ v (i:=0) rfl) ?_;conv=>whnf
   refine au (yt p _ c cs _ h y) ?_;conv=>whnf
   apply aX<;>intro g;all_goals conv=>whnf
   ·refine⟨?_,rfl⟩;rw[cD];rintro⟨_,⟨j,_⟩|⟨_,_,_,_,j⟩⟩
    ·cases j
    exact g ⟨q,(j _ (x_ _)).2⟩
   refine ay ?_;conv=>whnf
   refine aL x ?_;conv=>whnf
   refine ld (aJ v (i:=0) rfl) ?_;conv=>whnf
   apply aC<;>intro j;all_goals conv=>whnf
   ·refine⟨?_,rfl⟩;rw[cD];rintro⟨_,⟨E,_⟩|⟨_,_,_,_,E⟩⟩
    ·cases E
    exact(E _ (x_ _)).1 j
   refine av ?_;conv=>whnf
   refine cL (m+1) ⟨O,λi b F=>?_⟩ O rfl;rcases Nat.lt_succ_iff_lt_or_eq.1 F with D|rfl
   ·exact K i b D
   exact⟨j,g.2⟩
  refine⟨?_,rfl⟩;rw[eg];refine⟨q,.inr ⟨rfl,f,by simp only;omega,R,λA z=>?_⟩⟩;change A∈d at z
  obtain⟨i,b,rfl⟩:=List.mem_iff_getElem.1 z;exact K i b O
def br (m:bT):List Int:=(if 0<=m.cls then [8+m.cls]else [])++m.args
theorem wA (vs:List Value) (m:bT) (h:Heap) (u:dz h vs m) (I:8+m.cls<=9223372036854775807) (K:m.args.length<=1000000) :
  bq prog 156 [.agg ⟨vs⟩] h λv c=>h.le c/\∃ B,dM c v (br m) B/\∀ b∈B,h b=none:=by
 obtain⟨A,C,N,k,rfl,H,_,_,_,d,_⟩:=u;have p:=d.len;obtain⟨M,E,rfl,_,_⟩:=p;refine bE ax func156 Qs U rfl ?_;conv=>whnf
 apply aC<;>intro e;all_goals conv=>whnf
 ·refine av ?_;conv=>whnf
  refine dh (h0:=h) (xs:=[]) (ys:=[bD (8+m.cls)]) (B:=[]) ⟨Z,.inl ⟨rfl,rfl,rfl⟩⟩ Z (z_ h) rfl rfl (by simp[bD]) rfl rfl Z Z ?_;intro P c z j o s F G;have q:=o.form;obtain⟨L,D,rfl,J⟩:=q;conv=>whnf
  refine mG (d.le j) ?_;conv=>whnf
  refine dh (ys:=m.args.map bD) o s j (dj _).symm Z (by simp[bD]) (cR _) rfl (by simp;omega) (by simp;omega) ?_;intro y t a f g i w x;conv=>whnf
  refine⟨f,a,?_,i⟩;unfold dM br;rw[if_pos e];simpa using g
 refine mG d ?_;conv=>whnf
 refine dh (h0:=h) (xs:=[]) (ys:=m.args.map bD) (B:=[]) ⟨Z,.inl ⟨rfl,rfl,rfl⟩⟩ Z (z_ h) (dj _).symm Z (by simp[bD]) (cR _) rfl (by simp;omega) (by simp;omega) ?_;intro y t a f g i w x;conv=>whnf
 refine⟨f,a,?_,i⟩;unfold dM br;rw[if_neg e];simpa using g
def eC (n:Nat) (m:bT):Prop :=
 ((m.cls = -1/\m.eu=0)\/(0 < m.cls/\m.cls < n/\0<=m.eu/\m.eu < 3))/\m.args.length<=2/\bL n m.out/\fJ n m.args/\m.locals<=3/\(br m).length<=m.locals
theorem D4 (v vs:List Value) (u:aI) (m:bT) (h:Heap) (X:dn h v u) (s:dz h vs m):Pure prog 92 [.agg ⟨v⟩,.agg ⟨vs⟩] h (tf (eC u.ak.length m)):=by
 have Q:=s;obtain⟨ab,ad,ae,k,rfl,h1,h2,I,h4,o,J,K,L⟩:=s;obtain⟨cv,mv,rfl,p,S⟩:=X;have P:=p.1;have f:=p.len;obtain⟨Y,A,rfl,_,_⟩:=f;have f:=o.len;obtain⟨t,g,rfl,_,_⟩:=f;have f:=S.len;obtain⟨p2,w,rfl,_,_⟩:=f;have f:=J.len;obtain⟨p3,x,rfl,_,_⟩:=f;have f:=K.len;obtain⟨p4,y,rfl,_,_⟩:=f;have f:=L.len;obtain⟨p5,z,rfl,_,_⟩:=f;have d:¬eC u.ak.length m->.bool false=tf (eC u.ak.length m):=λa=>(cD a).symm;refine Gz ax func92 W4 U rfl ?_;conv=>whnf
 repeat' ((first
  | apply aC<;>intro _
  | apply aX<;>intro _
  | refine au (kI _ _ _ _ _) ?_)<;>conv=>whnf)
 all_goals first
  | (exfalso;omega)
  | exact⟨d (by intro a;have hx1:=a.1;have hx2:=a.2.1;omega),z_ h⟩
  | skip
 all_goals
  refine au (mF _ _ _ O I) ?_;conv=>whnf
  apply aX<;>intro e;all_goals conv=>whnf
  ·exact⟨d (λa=>e a.2.2.1),z_ h⟩
  refine eF [2,3,48,49,50] [2,3] (λi:Nat=>i<=m.args.length/\∀ j (c:j < m.args.length),j < i->bL u.ak.length m.args[j]) (λi=>m.args.length-i)
   (λi=>([.l 2 0,.l 3 0,.v (.slice t m.args.length g),.v (.int .i64 m.args.length),.v (.int .i64 i)],
    [some [.slice Y u.ak.length A,.slice p2 u.methods.length w],some [.int .i64 m.cls,.int .i64 m.eu,.slice t m.args.length g,.int .i64 m.out,.int .i64 m.locals,.slice p3 m.code.length x,.slice p4 m.aF.length y,.slice p5 m.catches.length z]],h)) 0 ⟨O,λl P h=>O⟩ rfl ?_
  rintro i ⟨hi,q⟩;conv=>whnf
  apply aC<;>intro G;all_goals conv=>whnf
  ·have R:i < m.args.length:=by omega
   have F:=o.get R;obtain⟨bb,off,vs,V,B,C,D⟩:=F;subst C;refine ay ?_;conv=>whnf
   refine aL V ?_;conv=>whnf
   refine ld (aJ B (i:=0) rfl) ?_;conv=>whnf
   refine au (mF _ _ _ O D) ?_;conv=>whnf
   apply aX<;>intro b;all_goals conv=>whnf
   ·exact⟨d (λa=>b (a.2.2.2.1 _ (x_ _))),z_ h⟩
   refine av ?_;conv=>whnf
   refine cL (i+1) ⟨O,λj c N=>?_⟩ O rfl;rcases Nat.lt_succ_iff_lt_or_eq.1 N with H|rfl
   ·exact q j c H
   exact b
  have M:fJ u.ak.length m.args:=by
   intro af W;obtain⟨j,c,rfl⟩:=List.mem_iff_getElem.1 W;exact q j c O
  apply aC<;>intro b;all_goals conv=>whnf
  ·refine cP (wA _ m h Q O O) ?_;rintro ag h' ⟨hle,aa,T,hB⟩;refine⟨hle,?_⟩;have E:=T.form;obtain⟨p',c',rfl,JD⟩:=E;conv=>whnf
   refine⟨(uL ⟨λa=>?_,λa=>?_⟩).symm,hle⟩
   ·have:=a.2.2.2.2.2;simpa using this
   exact⟨O,O,e,M,O,by simpa using a⟩
  exact⟨d (λa=>b a.2.2.2.2.1),z_ h⟩
theorem D5 (t vs:List Value) (u:aI) (m:bT) (h:Heap) (S:dn h t u) (M:dz h vs m):Pure prog 180 [.agg ⟨t⟩,.agg ⟨vs⟩] h (tf (eC u.ak.length m)):=by
 obtain⟨aa,ab,ad,k,rfl,h1,h2,h3,h4,g,H,I,J⟩:=M;obtain⟨cv,mv,rfl,q,P⟩:=S;have o:=q.1;have wB:=g.1;have f:=q.len;obtain⟨T,A,rfl,_,_⟩:=f;have f:=g.len;obtain⟨V,v,rfl,_,_⟩:=f;have f:=P.len;obtain⟨W,w,rfl,_,_⟩:=f;have f:=H.len;obtain⟨X,x,rfl,_,_⟩:=f;have f:=I.len;obtain⟨Y,y,rfl,_,_⟩:=f;have f:=J.len;obtain⟨p5,z,rfl,_,_⟩:=f;have b:¬eC u.ak.length m->.bool false=tf (eC u.ak.length m):=λa=>(cD a).symm;have K:((br m).length:Int)=(if 0<=m.cls then 1 else 0)+m.args.length:=by
  unfold br;split<;>simp
  omega
 refine gF ax func180 QJ U rfl ?_;conv=>whnf
 apply aC<;>intro d0;all_goals conv=>whnf
 all_goals
  simp only[d0,if_true,if_false]at K;apply aC<;>intro d1;all_goals conv=>whnf
  ·exact⟨b (by intro a;have:=a.1;omega),rfl⟩
  refine av ?_;conv=>whnf
  refine au (dW _ _ _ _) ?_;conv=>whnf
  apply aX<;>intro d2;all_goals conv=>whnf
  ·exact⟨b (by intro a;have:=a.1;omega),rfl⟩
  apply aC<;>intro d3;all_goals conv=>whnf
  ·exact⟨b (by intro a;have:=a.2.1;omega),rfl⟩
  refine au (nD _ _ _ _ _ o) ?_;conv=>whnf
  apply aX<;>intro d4;all_goals conv=>whnf
  ·exact⟨b (λa=>d4 a.2.2.1),rfl⟩
  refine av ?_;conv=>whnf
  refine au (dW _ _ _ _) ?_;conv=>whnf
  apply aX<;>intro d5;all_goals conv=>whnf
  ·exact⟨b (by intro a;have:=a.2.2.2.2;omega),rfl⟩
  refine eF [2,3,6] [2,3] (λi:Nat=>i<=m.args.length/\∀ j (d:j < m.args.length),j < i->bL u.ak.length m.args[j]) (λi=>m.args.length-i)
   (λi=>([.l 2 0,.l 3 0,.v (.int .i64 i)],
    [some [.slice T u.ak.length A,.slice W u.methods.length w],some [.int .i64 m.cls,.int .i64 m.eu,.slice V m.args.length v,.int .i64 m.out,.int .i64 m.locals,.slice X m.code.length x,.slice Y m.aF.length y,.slice p5 m.catches.length z]],h)) 0 ⟨O,λl o h=>O⟩ rfl ?_
  rintro i ⟨hi,s⟩;conv=>whnf
  apply aC<;>intro E;all_goals conv=>whnf
  ·have N:i < m.args.length:=by omega
   have D:=g.get N;obtain⟨bb,off,vs,Q,B,C,e3⟩:=D;subst C;refine ay ?_;conv=>whnf
   refine aL Q ?_;conv=>whnf
   refine ld (aJ B (i:=0) rfl) ?_;conv=>whnf
   refine aP (nD _ _ _ _ _ o) ?_;conv=>whnf
   apply aX<;>intro c;all_goals conv=>whnf
   ·exact⟨b (λa=>c (a.2.2.2.1 _ (x_ _))),rfl⟩
   refine av ?_;conv=>whnf
   refine cL (i+1) ⟨O,λj d L=>?_⟩ O rfl;rcases Nat.lt_succ_iff_lt_or_eq.1 L with G|rfl
   ·exact s j d G
   exact c
  have p:fJ u.ak.length m.args:=by
   intro ae R;obtain⟨j,d,rfl⟩:=List.mem_iff_getElem.1 R;exact s j d O
  apply aC<;>intro c;all_goals conv=>whnf
  ·first
    | (exfalso;omega)
    | (
     refine au (dW _ _ _ _) ?_;conv=>whnf
     apply aC<;>intro F;all_goals conv=>whnf
     ·exact⟨(eg ⟨O,O,d4,p,O,O⟩).symm,rfl⟩
     apply aC<;>intro e;all_goals conv=>whnf
     ·exfalso;omega
     exact⟨b (by intro a;have:=a.1;omega),rfl⟩)
  first
   | (exfalso;omega)
   | (
    apply aC<;>intro e;all_goals conv=>whnf
    ·refine⟨(uL ⟨λa=>?_,λa=>?_⟩).symm,rfl⟩
     ·have:=a.1;omega
     exact⟨O,O,d4,p,O,O⟩
    exfalso;omega)
def ek (a b:Int):Value:=.agg #[.int .i64 a,.int .i64 b]
def gS:List (Int × Value):=[(1,ek 1 0),(2,ek 0 0),(3,ek 2 0),(4,ek 2 0),(5,ek 0 0),(6,ek 0 0),(7,ek 3 0),(8,ek 4 0),(9,ek 4 0),(10,ek 4 0),(11,ek 4 0),(12,ek 5 0),(13,ek 6 0),(14,ek 0 0),(15,ek 6 0),(16,ek 6 0),(17,ek 5 8),(18,ek 5 8),(19,ek 5 0),(20,ek 7 0),(21,ek 5 9),(22,ek 0 0),(23,ek 0 0),(24,ek 0 0)]
theorem GI (h:Heap):bq prog 91 [] h λv a=>∃ b,v=.map (some b)/\h b=none/\a=h.set b (mB gS):=by
 refine bE ax func91 W3 U rfl ?_;conv=>whnf
 refine JE (λb c=>?_);conv=>whnf
 repeat' (refine GA rfl rfl rfl (λw=>rfl) (λw=>rfl) rfl ?_;conv=>whnf)
 exact⟨b,rfl,c,rfl⟩
def Iz:bT:=⟨0,0,[],0,0,[],[],[]⟩
def bz (u:aI) (n:Int):bT:=u.methods.getD n.toNat Iz
theorem gY {u:aI} {n:Int} {i:Nat} (a:i < u.methods.length) (b:n=i):bz u n=u.methods[i]:=by
 subst b;simp[bz,a]
theorem dn.form {h:Heap} {e:List Value} {u:aI} (m:dn h e u):∃ p c q d,e=[.slice p u.ak.length c,.slice q u.methods.length d]/\eP h (.slice p u.ak.length c) u.ak/\Row 8 dz h (.slice q u.methods.length d) u.methods /\
  u.ak.length<=140737488351232/\u.methods.length<=140737488351232:=by
 obtain⟨s,t,rfl,a,b⟩:=m;obtain⟨p,g,rfl,_,i⟩:=a.len;obtain⟨o,f,rfl,_,j⟩:=b.len;exact⟨p,g,o,f,rfl,a,b,i,j⟩
theorem dz.form {h:Heap} {vs:List Value} {m:bT} (A:dz h vs m):∃ e a f b g c i d,vs=[.int .i64 m.cls,.int .i64 m.eu,.slice e m.args.length a,.int .i64 m.out,.int .i64 m.locals,.slice f m.code.length b,.slice g m.aF.length c,.slice i m.catches.length d] /\
  cy m.cls/\cy m.eu/\cy m.out/\cy m.locals/\bP h (.slice e m.args.length a) m.args/\Row 3 yg h (.slice f m.code.length b) m.code/\Row 3 gR h (.slice g m.aF.length c) m.aF/\Row 4 zZ h (.slice i m.catches.length d) m.catches /\
  m.args.length<=140737488351232/\m.code.length<=140737488351232/\m.aF.length<=140737488351232/\m.catches.length<=140737488351232:=by
 obtain⟨B,C,D,k,rfl,w,x,y,z,j,o,p,q⟩:=A;obtain⟨e,a,rfl,_,s⟩:=j.len;obtain⟨f,b,rfl,_,t⟩:=o.len;obtain⟨g,c,rfl,_,u⟩:=p.len;obtain⟨i,d,rfl,_,v⟩:=q.len;exact⟨e,a,f,b,g,c,i,d,rfl,w,x,y,z,j,o,p,q,s,t,u,v⟩
def bh (u:aI) (m:bT) (a:Int) (b n:Int):Prop :=
 if b=1 then isWord n=true
 else if b=2 then 0<=n/\n < m.locals
 else if b=3 then 1<=n/\n<=4
 else if b=4 then 0<=n/\n < m.code.length
 else if b=5 then 0<=n/\n < u.ak.length
 else if b=6 then n=0\/n=1
 else if b=7 then (0<=n/\n < u.methods.length)/\(bz u n).cls = -1
 else if b=8 then 0<=n/\n < (bV u.ak a).length
 else if b=9 then 0<=n/\n < 3
 else n=0
theorem rL (y x:List Value) (u:aI) (m:bT) (k a b t n:Int) (h:Heap) (K:dn h y u) (G:dz h x m) (ok:bX u.ak) (v:t=8->0<=a/\a < u.ak.length) :
  Pure prog 164 [.agg ⟨y⟩,.agg ⟨x⟩,.agg #[.int .i64 k,.int .i64 a,.int .i64 b],.int .i64 t,.int .i64 n] h (tf (bh u m a t n)):=by
 obtain⟨ab,Y,ad,aa,rfl,F,H,jq,hl2⟩:=K.form;obtain⟨p1,T,p2,V,p3,W,p4,X,rfl,h1,h2,h3,h4,h5,h6,h7,h8,M,N,P,Q⟩:=G.form;refine Gz ax func164 Qz U rfl ?_;conv=>whnf
 apply aC<;>intro o;all_goals conv=>whnf
 ·refine au (tD _ _) ?_;conv=>whnf
  exact⟨by simp[bh,o,tf],z_ h⟩
 apply aC<;>intro d;all_goals conv=>whnf
 ·repeat' ((first|refine dm ?_|refine bZ ?_|refine eN ?_|refine eO ?_|apply aC<;>intro _|apply aX<;>intro _|apply fh<;>intro _|apply dG<;>intro _|refine ay ?_|refine av ?_|refine ptr ?_)<;>conv=>whnf)
  all_goals first|(exfalso;omega)|exact⟨fA (by (try simp only[bh,d,if_true,if_false])<;>first|omega|(simp;omega)|simp),z_ h⟩|exact⟨dH (by (try simp only[bh,d,if_true,if_false])<;>first|omega|(simp;omega)|simp),z_ h⟩|exact⟨bU (by (try simp only[bh,d,if_true,if_false])<;>first|omega|(simp;omega)|simp),z_ h⟩
 apply aC<;>intro e;all_goals conv=>whnf
 ·repeat' ((first|refine dm ?_|refine bZ ?_|refine eN ?_|refine eO ?_|apply aC<;>intro _|apply aX<;>intro _|apply fh<;>intro _|apply dG<;>intro _|refine ay ?_|refine av ?_|refine ptr ?_)<;>conv=>whnf)
  all_goals first|(exfalso;omega)|exact⟨fA (by (try simp only[bh,e,if_true,if_false])<;>first|omega|(simp;omega)|simp),z_ h⟩|exact⟨dH (by (try simp only[bh,e,if_true,if_false])<;>first|omega|(simp;omega)|simp),z_ h⟩|exact⟨bU (by (try simp only[bh,e,if_true,if_false])<;>first|omega|(simp;omega)|simp),z_ h⟩
 apply aC<;>intro f;all_goals conv=>whnf
 ·repeat' ((first|refine dm ?_|refine bZ ?_|refine eN ?_|refine eO ?_|apply aC<;>intro _|apply aX<;>intro _|apply fh<;>intro _|apply dG<;>intro _|refine ay ?_|refine av ?_|refine ptr ?_)<;>conv=>whnf)
  all_goals first|(exfalso;omega)|exact⟨fA (by (try simp only[bh,f,if_true,if_false])<;>first|omega|(simp;omega)|simp),z_ h⟩|exact⟨dH (by (try simp only[bh,f,if_true,if_false])<;>first|omega|(simp;omega)|simp),z_ h⟩|exact⟨bU (by (try simp only[bh,f,if_true,if_false])<;>first|omega|(simp;omega)|simp),z_ h⟩
 apply aC<;>intro p;all_goals conv=>whnf
 ·refine au (kI _ _ _ _ _) ?_;conv=>whnf
  exact⟨by simp[bh,p],z_ h⟩
 apply aC<;>intro g;all_goals conv=>whnf
 ·repeat' ((first|refine dm ?_|refine bZ ?_|refine eN ?_|refine eO ?_|apply aC<;>intro _|apply aX<;>intro _|apply fh<;>intro _|apply dG<;>intro _|refine ay ?_|refine av ?_|refine ptr ?_)<;>conv=>whnf)
  all_goals first|(exfalso;omega)|exact⟨fA (by (try simp only[bh,g,if_true,if_false])<;>first|omega|(simp;omega)|simp),z_ h⟩|exact⟨dH (by (try simp only[bh,g,if_true,if_false])<;>first|omega|(simp;omega)|simp),z_ h⟩|exact⟨bU (by (try simp only[bh,g,if_true,if_false])<;>first|omega|(simp;omega)|simp),z_ h⟩
 apply aC<;>intro c;all_goals conv=>whnf
 ·apply aC<;>intro q;all_goals conv=>whnf
  ·apply aC<;>intro E;all_goals conv=>whnf
   ·have w:n.toNat < u.methods.length:=by omega
    have z:=H.get w;obtain⟨R,off,vs,J,A,B⟩:=z;obtain⟨_,_,_,_,C,_⟩:=B;subst C;refine ay ?_;conv=>whnf
    refine aL J ?_;conv=>whnf
    refine ld (aJ A (i:=0) rfl) ?_;conv=>whnf
    have s:bz u n=u.methods[n.toNat]:=gY w O;first|(exfalso;omega)|exact⟨fA (by (try simp only[bh,c,if_true,if_false,s])<;>first|omega|(simp;omega)|simp),z_ h⟩|exact⟨dH (by (try simp only[bh,c,if_true,if_false,s])<;>first|omega|(simp;omega)|simp),z_ h⟩|exact⟨bU (by (try simp only[bh,c,if_true,if_false,s])<;>first|omega|(simp;omega)|simp),z_ h⟩
   first|(exfalso;omega)|exact⟨fA (by (try simp only[bh,c,if_true,if_false])<;>first|omega|(simp;omega)|simp),z_ h⟩|exact⟨dH (by (try simp only[bh,c,if_true,if_false])<;>first|omega|(simp;omega)|simp),z_ h⟩|exact⟨bU (by (try simp only[bh,c,if_true,if_false])<;>first|omega|(simp;omega)|simp),z_ h⟩
  first|(exfalso;omega)|exact⟨fA (by (try simp only[bh,c,if_true,if_false])<;>first|omega|(simp;omega)|simp),z_ h⟩|exact⟨dH (by (try simp only[bh,c,if_true,if_false])<;>first|omega|(simp;omega)|simp),z_ h⟩|exact⟨bU (by (try simp only[bh,c,if_true,if_false])<;>first|omega|(simp;omega)|simp),z_ h⟩
 apply aC<;>intro w8;all_goals conv=>whnf
 ·apply aC<;>intro q;all_goals conv=>whnf
  ·refine aB (gh _ _ _ _ _ _ _ F ok (v w8).1 (v w8).2 (Nat.lt_succ_self _)) ?_;rintro ae h' ⟨hle,L,I,_⟩;have D:=I.form;obtain⟨p',S,rfl,JD⟩:=D;conv=>whnf
   exact⟨fA (by simp only[bh,w8,if_true,if_false];simp;omega),hle⟩
  first|(exfalso;omega)|exact⟨fA (by (try simp only[bh,w8,if_true,if_false])<;>first|omega|(simp;omega)|simp),z_ h⟩|exact⟨dH (by (try simp only[bh,w8,if_true,if_false])<;>first|omega|(simp;omega)|simp),z_ h⟩|exact⟨bU (by (try simp only[bh,w8,if_true,if_false])<;>first|omega|(simp;omega)|simp),z_ h⟩
 apply aC<;>intro j;all_goals conv=>whnf
 ·repeat' ((first|refine dm ?_|refine bZ ?_|refine eN ?_|refine eO ?_|apply aC<;>intro _|apply aX<;>intro _|apply fh<;>intro _|apply dG<;>intro _|refine ay ?_|refine av ?_|refine ptr ?_)<;>conv=>whnf)
  all_goals first|(exfalso;omega)|exact⟨fA (by (try simp only[bh,j,if_true,if_false])<;>first|omega|(simp;omega)|simp),z_ h⟩|exact⟨dH (by (try simp only[bh,j,if_true,if_false])<;>first|omega|(simp;omega)|simp),z_ h⟩|exact⟨bU (by (try simp only[bh,j,if_true,if_false])<;>first|omega|(simp;omega)|simp),z_ h⟩
 first|(exfalso;omega)|exact⟨fA (by (try simp only[bh,o,d,e,f,p,g,c,w8,j,if_true,if_false])<;>first|omega|(simp;omega)|simp),z_ h⟩|exact⟨dH (by (try simp only[bh,o,d,e,f,p,g,c,w8,j,if_true,if_false])<;>first|omega|(simp;omega)|simp),z_ h⟩|exact⟨bU (by (try simp only[bh,o,d,e,f,p,g,c,w8,j,if_true,if_false])<;>first|omega|(simp;omega)|simp),z_ h⟩
theorem nE (k:Int) (v:Value):∀ {l:List (Int × Value)} {i j:Nat},iy k l i=some (j,v)->(k,v)∈l
 | [],_,_,h=>by cases h
 | (m,x)::l,i,j,h=>by
  rw[iy]at h;split at h
  ·rename_i a;subst a;cases h;exact List.mem_cons_self
  exact List.mem_cons_of_mem _ (nE k v h)
def pI (k:Int):Option (Int × Int):=match iy k gS 0 with
 | some (_,.agg ⟨[.int _ a,.int _ b]⟩)=>some (a,b)
 | _=>none
theorem z9 (k:Int):(iy k gS 0=none/\pI k=none)\/∃ i a b,iy k gS 0=some (i,ek a b)/\pI k=some (a,b)/\(b=0\/a=5)/\a≠8:=by
 have f:iy k gS 0=none\/∃ i a b,iy k gS 0=some (i,ek a b)/\(b=0\/a=5)/\a≠8:=by
  cases e:iy k gS 0 with
  | none=>exact .inl rfl
  | some q =>
   obtain⟨i,v⟩:=q;have c:=nE k v e;simp only[gS,List.mem_cons,List.not_mem_nil,or_false,Prod.mk.injEq]at c;rcases c with ⟨_,rfl⟩|⟨_,rfl⟩|⟨_,rfl⟩|⟨_,rfl⟩|⟨_,rfl⟩|⟨_,rfl⟩|⟨_,rfl⟩|⟨_,rfl⟩|⟨_,rfl⟩|⟨_,rfl⟩|⟨_,rfl⟩|⟨_,rfl⟩|⟨_,rfl⟩|⟨_,rfl⟩|⟨_,rfl⟩|⟨_,rfl⟩|⟨_,rfl⟩|⟨_,rfl⟩|⟨_,rfl⟩|⟨_,rfl⟩|⟨_,rfl⟩|⟨_,rfl⟩|⟨_,rfl⟩|⟨_,rfl⟩;all_goals refine .inr ⟨_,_,_,rfl,?_,?_⟩<;>decide
 rcases f with h|⟨i,a,b,h,d⟩
 ·exact .inl ⟨h,by simp[pI,h]⟩
 exact .inr ⟨i,a,b,h,by simp[pI,h,ek],d⟩
def dw (u:aI) (m:bT) (x:dc):Prop:=∃ a b,pI x.kind=some (a,b)/\bh u m x.a a x.a/\bh u m x.a b x.b
def vh (u:aI) (m:bT):Prop:=1<=m.code.length/\m.code.length<=12/\m.aF.length=m.code.length/\(∀ x∈m.code,dw u m x)/\∀ s∈m.aF,mH u.ak.length m.locals s
theorem D6 (us W:List Value) (u:aI) (m:bT) (b:Nat) (h:Heap) (T:dn h us u) (R:dz h W m) (ok:bX u.ak) (Q:h b=some (mB gS)) :
  Pure prog 93 [.agg ⟨us⟩,.agg ⟨W⟩,.map (some b)] h (tf (vh u m)):=by
 have V:=T;have S:=R;obtain⟨X,N,aa,P,rfl,hcs,lR,jq,hl2⟩:=T.form;obtain⟨Y,L,I,o,J,p,p4,M,rfl,h1,h2,h3,h4,h5,h6,h7,h8,b1,b2,b3,b4⟩:=R.form;have H:¬vh u m->.bool false=tf (vh u m):=λa=>(cD a).symm;refine gF ax func93 W5 U rfl ?_;conv=>whnf
 repeat' ((first|refine dm ?_|refine bZ ?_|refine eN ?_|refine eO ?_|apply aC<;>intro _|apply aX<;>intro _|apply fh<;>intro _|apply dG<;>intro _|refine ay ?_|refine av ?_|refine ptr ?_)<;>conv=>whnf)
 all_goals first|exact⟨H (by intro a;have:=a.1;have:=a.2.1;have:=a.2.2.1;omega),rfl⟩|skip
 refine eF [2,3,4,33,34,35] [3,4] (λi:Nat=>i<=m.code.length/\∀ j (c:j < m.code.length),j < i->dw u m m.code[j]) (λi=>m.code.length-i)
  (λi=>([.v (.map (some b)),.l 3 0,.l 4 0,.v (.slice I m.code.length o),.v (.int .i64 m.code.length),.v (.int .i64 i)],
   [some [.slice X u.ak.length N,.slice aa u.methods.length P],some [.int .i64 m.cls,.int .i64 m.eu,.slice Y m.args.length L,.int .i64 m.out,.int .i64 m.locals,.slice I m.code.length o,.slice J m.aF.length p,.slice p4 m.catches.length M]],h)) 0 ⟨O,λl hl h=>O⟩ rfl ?_
 rintro i ⟨hi,e⟩;conv=>whnf
 apply aC<;>intro y;all_goals conv=>whnf
 ·have E:i < m.code.length:=by omega
  have q:=h6.get E;obtain⟨bb,off,vs,F,s,t,v,x,e5⟩:=q;subst t;have bad:¬dw u m m.code[i]->Value.bool false=tf (vh u m):=λa=>H (λg=>a (g.2.2.2.1 _ (x_ _)));refine ay ?_;conv=>whnf
  refine aL F ?_;conv=>whnf
  refine dZ s ?_;conv=>whnf
  rcases z9 m.code[i].kind with ⟨C,f⟩|⟨j,K,w,C,f,hab,Xf⟩
  ·refine GC (z:=ek 0 0) rfl rfl (λw=>rfl) (λw=>rfl) (λw=>rfl) Q C ?_;conv=>whnf
   exact⟨bad (by rintro⟨_,_,a,_⟩;rw[f]at a;cases a),rfl⟩
  refine GB (z:=ek 0 0) rfl rfl (λw=>rfl) (λw=>rfl) (λw=>rfl) Q C ?_;conv=>whnf
  refine au (rL _ _ u m _ _ _ _ _ h V S ok (λa=>absurd a Xf)) ?_;conv=>whnf
  apply aX<;>intro d;all_goals conv=>whnf
  ·exact⟨bad (by rintro⟨_,_,a,g,_⟩;rw[f]at a;cases a;exact d g),rfl⟩
  refine au (rL _ _ u m _ _ _ _ _ h V S ok ?_) ?_
  ·intro a;have ha:K=5:=by omega
   subst ha;simpa [bh]using d
  conv=>whnf
  apply aX<;>intro A;all_goals conv=>whnf
  ·exact⟨bad (by rintro⟨_,_,a,_,g⟩;rw[f]at a;cases a;exact A g),rfl⟩
  refine av ?_;conv=>whnf
  refine cL (i+1) ⟨O,λj c D=>?_⟩ O rfl;rcases Nat.lt_succ_iff_lt_or_eq.1 D with B|rfl
  ·exact e j c B
  exact⟨K,w,f,d,A⟩
 have hA:∀ ad∈m.code,dw u m ad:=by
  intro ab G;obtain⟨j,c,rfl⟩:=List.mem_iff_getElem.1 G;exact e j c O
 refine eF [3,4,72,73,74] [3,4] (λi:Nat=>i<=m.aF.length/\∀ j (c:j < m.aF.length),j < i->mH u.ak.length m.locals m.aF[j]) (λi=>m.aF.length-i)
  (λi=>([.l 3 0,.l 4 0,.v (.slice J m.aF.length p),.v (.int .i64 m.aF.length),.v (.int .i64 i)],
   [some [.slice X u.ak.length N,.slice aa u.methods.length P],some [.int .i64 m.cls,.int .i64 m.eu,.slice Y m.args.length L,.int .i64 m.out,.int .i64 m.locals,.slice I m.code.length o,.slice J m.aF.length p,.slice p4 m.catches.length M]],h)) 0 ⟨O,λl hl h=>O⟩ rfl ?_
 rintro i ⟨hi,e⟩;conv=>whnf
 apply aC<;>intro y;all_goals conv=>whnf
 ·have E:i < m.aF.length:=by omega
  have q:=h7.get E;obtain⟨bb,off,vs,F,s,l,k,t,v,x⟩:=q;subst t;obtain⟨p5,c5,rfl,_,_⟩:=v.len;obtain⟨p6,c6,rfl,_,_⟩:=x.len;refine ay ?_;conv=>whnf
  refine aL F ?_;conv=>whnf
  refine dZ s ?_;conv=>whnf
  refine au (qO _ _ _ _ _ _ _ h jq v x) ?_;conv=>whnf
  apply aX<;>intro d;all_goals conv=>whnf
  ·exact⟨H (λa=>d (a.2.2.2.2 _ (x_ _))),rfl⟩
  refine av ?_;conv=>whnf
  refine cL (i+1) ⟨O,λj c D=>?_⟩ O rfl;rcases Nat.lt_succ_iff_lt_or_eq.1 D with B|rfl
  ·exact e j c B
  exact d
 refine⟨(eg ⟨O,O,O,hA,?_⟩).symm,rfl⟩;intro ab G;obtain⟨j,c,rfl⟩:=List.mem_iff_getElem.1 G;exact e j c O
def mI (u:aI) (m:bT) (c:je):Prop:=(0<=c.lo/\c.lo < m.code.length/\0<=c.to/\c.to < m.code.length)/\(c.lo < c.hi/\c.hi<=m.code.length)/\(0<=c.cls/\c.cls < u.ak.length)/\up u.ak c.cls 1=true
def kJ (u:aI) (m:bT):Prop:=m.catches.length<=2/\∀ c∈m.catches,mI u m c
theorem yu (q g:List Value) (u:aI) (m:bT) (h:Heap) (L:dn h q u) (H:dz h g m) (ok:bX u.ak) :
  Pure prog 94 [.agg ⟨q⟩,.agg ⟨g⟩] h (tf (kJ u m)):=by
 obtain⟨N,w,S,x,rfl,F,lR,jq,hl2⟩:=L.form;obtain⟨P,s,Q,t,R,v,p,e,rfl,h1,h2,h3,h4,h5,h6,h7,E,T,V,W,X⟩:=H.form;have o:¬kJ u m->.bool false=tf (kJ u m):=λa=>(cD a).symm;refine gF ax func94 W6 U rfl ?_;conv=>whnf
 apply aC<;>intro B;all_goals conv=>whnf
 ·exact⟨o (λa=>by have:=a.1;omega),rfl⟩
 refine eF [2,3,12,13,14] [2,3] (λi:Nat=>i<=m.catches.length/\∀ j (c:j < m.catches.length),j < i->mI u m m.catches[j]) (λi=>m.catches.length-i)
  (λi=>([.l 2 0,.l 3 0,.v (.slice p m.catches.length e),.v (.int .i64 m.catches.length),.v (.int .i64 i)],
   [some [.slice N u.ak.length w,.slice S u.methods.length x],some [.int .i64 m.cls,.int .i64 m.eu,.slice P m.args.length s,.int .i64 m.out,.int .i64 m.locals,.slice Q m.code.length t,.slice R m.aF.length v,.slice p m.catches.length e]],h)) 0 ⟨O,λl hl h=>O⟩ rfl ?_
 rintro i ⟨hi,f⟩;conv=>whnf
 apply aC<;>intro C;all_goals conv=>whnf
 ·have I:i < m.catches.length:=by omega
  have y:=E.get I;obtain⟨Y,off,vs,J,z,A,e3,e4,e5,e6⟩:=y;subst A;have bad:¬mI u m m.catches[i]->Value.bool false=tf (kJ u m):=λa=>o (λM=>a (M.2 _ (x_ _)));refine ay ?_;conv=>whnf
  refine aL J ?_;conv=>whnf
  refine dZ z ?_;conv=>whnf
  repeat' ((first|refine dm ?_|refine bZ ?_|refine eN ?_|refine eO ?_|apply aC<;>intro _|apply aX<;>intro _|apply fh<;>intro _|apply dG<;>intro _|refine ay ?_|refine av ?_|refine ptr ?_)<;>conv=>whnf)
  all_goals first|(exfalso;omega)|exact⟨bad (by intro a;have:=a.1;have:=a.2.1;omega),rfl⟩|skip
  refine au (kI _ _ _ _ _) ?_;conv=>whnf
  apply aX<;>intro d;all_goals conv=>whnf
  ·exact⟨bad (λa=>d a.2.2.1),rfl⟩
  refine au (qN _ _ _ _ _ _ _ F ok O O) ?_;conv=>whnf
  apply dG<;>intro b;all_goals conv=>whnf
  ·exact⟨bad (λa=>by rw[a.2.2.2]at b;cases b),rfl⟩
  refine av ?_;conv=>whnf
  refine cL (i+1) ⟨O,λj c G=>?_⟩ O rfl;rcases Nat.lt_succ_iff_lt_or_eq.1 G with D|rfl
  ·exact f j c D
  exact⟨O,O,d,b⟩
 refine⟨(eg ⟨O,?_⟩).symm,rfl⟩;intro aa K;obtain⟨j,c,rfl⟩:=List.mem_iff_getElem.1 K;exact f j c O
theorem wC (p q:Option Addr) (c d n k:Nat) (l r:List Int) (h:Heap) (m:bP h (.slice p n c) l) (o:bP h (.slice q k d) r) :
  Pure prog 167 [.slice p n c,.slice q k d] h (tf (l=r)):=by
 obtain⟨_,_,a,_,E⟩:=m.len;injection a with _ a _
 subst a;obtain⟨_,_,a,_,Q⟩:=o.len;injection a with _ a _
 subst a;refine gF ax func167 QC U rfl ?_;conv=>whnf
 apply aX<;>intro g;all_goals conv=>whnf
 ·exact⟨bU (λf=>by subst f;exact g rfl),rfl⟩
 have F:l.length=r.length:=by omega
 refine eF [0,1,12,13] [] (λi:Nat=>i<=l.length/\∀ j (b:j < l.length),j < i->l[j]=r[j]) (λi=>l.length-i)
  (λi=>([.v (.slice p l.length c),.v (.slice q r.length d),.v (.int .i64 l.length),.v (.int .i64 i)],[],h)) 0 ⟨O,λl E h=>O⟩ rfl ?_
 rintro i ⟨P,s⟩;conv=>whnf
 apply aC<;>intro z;all_goals conv=>whnf
 ·have B:i < l.length:=by omega
  have C:i < r.length:=by omega
  have x:=m.get B;have y:=o.get C;obtain⟨L,R,T,G,t,u,K⟩:=x;obtain⟨M,S,V,H,v,w,N⟩:=y;subst u w;have I:=aJ t (i:=0) rfl;have J:=aJ v (i:=0) rfl;repeat' ((first|refine ay ?_|refine aL G ?_|refine aL H ?_|refine ld I ?_|refine ld J ?_)<;>conv=>whnf)
  apply aX<;>intro e;all_goals conv=>whnf
  ·exact⟨bU (λf=>by subst f;exact e rfl),rfl⟩
  refine av ?_;conv=>whnf
  refine cL (i+1) ⟨O,λj b D=>?_⟩ O rfl;rcases Nat.lt_succ_iff_lt_or_eq.1 D with A|rfl
  ·exact s j b A
  exact e
 refine⟨dH ?_,rfl⟩;exact List.ext_getElem F (λj b _=>s j b O)
def mJ (u:aI) (m n:bT):Prop:=0<=m.cls->0<=n.cls->m.eu=n.eu->m.cls≠n.cls/\(up u.ak m.cls n.cls=true->m.out=n.out/\m.args=n.args)
def lS (u:aI):Prop:=∀ i j (a:i < u.methods.length) (b:j < u.methods.length),i≠j->mJ u u.methods[i] u.methods[j]
theorem GJ (J:List Value) (u:aI) (h:Heap) (hu:dn h J u) (ok:bX u.ak) (E:∀ m∈u.methods,-1<=m.cls/\m.cls < u.ak.length) :
  Pure prog 95 [.agg ⟨J⟩] h (tf (lS u)):=by
 obtain⟨I,C,q,f,rfl,W,H,jq,hl2⟩:=hu.form;have no:¬lS u->.bool false=tf (lS u):=λa=>(cD a).symm;refine gF ax func95 W7 U rfl ?_;conv=>whnf
 refine eF [1,8,9,10] [1] (λi:Nat=>i<=u.methods.length/\∀ e j (X:e < u.methods.length) (d:j < u.methods.length),e < i->e≠j->mJ u u.methods[e] u.methods[j]) (λi=>u.methods.length-i)
  (λi=>([.l 1 0,.v (.slice q u.methods.length f),.v (.int .i64 u.methods.length),.v (.int .i64 i)],[some [.slice I u.ak.length C,.slice q u.methods.length f]],h)) 0 ⟨O,λ_ _ _ _ a=>O⟩ rfl ?_
 rintro i ⟨X,F⟩;conv=>whnf
 apply aC<;>intro S;all_goals conv=>whnf
 ·have x:i < u.methods.length:=by omega
  have o:=H.get x;obtain⟨bb,off,vs,hq,P,Q⟩:=o;have IA:=E _ (x_ x);obtain⟨p1,K,p2,L,p3,M,p4,N,R,h1,h2,h3,h4,V,h6,h7,h8,b1,b2,b3,b4⟩:=Q.form;subst R;refine ay ?_;conv=>whnf
  refine aL hq ?_;conv=>whnf
  refine dZ P ?_;conv=>whnf
  refine eF [1,3,4,8,9,10,16,17,18] [1,4] (λj:Nat=>j<=u.methods.length/\∀ c (d:c < u.methods.length),c < j->i≠c->mJ u u.methods[i] u.methods[c]) (λj=>u.methods.length-j)
   (λj=>([.l 1 0,.v (.int .i64 i),.l 4 0,.v (.slice q u.methods.length f),.v (.int .i64 u.methods.length),.v (.int .i64 i),.v (.slice q u.methods.length f),.v (.int .i64 u.methods.length),.v (.int .i64 j)],
    [some [.slice I u.ak.length C,.slice q u.methods.length f],some [.int .i64 u.methods[i].cls,.int .i64 u.methods[i].eu,.slice p1 u.methods[i].args.length K,.int .i64 u.methods[i].out,.int .i64 u.methods[i].locals,.slice p2 u.methods[i].code.length L,.slice p3 u.methods[i].aF.length M,.slice p4 u.methods[i].catches.length N]],h)) 0 ⟨O,λ_ _ a=>O⟩ rfl ?_
  rintro j ⟨d,G⟩;conv=>whnf
  apply aC<;>intro T;all_goals conv=>whnf
  ·have w:j < u.methods.length:=by omega
   have o:=H.get w;obtain⟨OH,z6,Lt,JR,f1,f2⟩:=o;have Xg:=E _ (x_ w);obtain⟨RB,Mn,RC,Mo,GK,Gk,RD,RE,f3,y,z,A,B,k5,k6,k7,k8,d1,d2,d3,d4⟩:=f2.form;subst f3;have bad:i≠j->¬mJ u u.methods[i] u.methods[j]->Value.bool false=tf (lS u):=λb a=>no (λhy=>a (hy i j x w b));have s:(i≠j->mJ u u.methods[i] u.methods[j])->∀ c (d:c < u.methods.length),c < j+1->i≠c->mJ u u.methods[i] u.methods[c]:=by
    intro a c Xh GL b;rcases Nat.lt_succ_iff_lt_or_eq.1 GL with t|rfl
    ·exact G c Xh t b
    exact a b
   refine ay ?_;conv=>whnf
   refine aL JR ?_;conv=>whnf
   refine dZ f1 ?_;conv=>whnf
   by_cases Mp:(i:Int)=j\/u.methods[i].cls < 0\/u.methods[j].cls < 0\/u.methods[i].eu≠u.methods[j].eu
   ·repeat' ((first|refine dm ?_|refine bZ ?_|refine eN ?_|refine eO ?_|apply aC<;>intro _|apply aX<;>intro _|apply fh<;>intro _|apply dG<;>intro _|refine ay ?_|refine av ?_|refine ptr ?_)<;>conv=>whnf)
    all_goals first
     | (exfalso;omega)
     | (refine cL (j+1) ⟨O,s (λb y z A=>O)⟩ O rfl)
   repeat' ((first|refine dm ?_|refine bZ ?_|refine eN ?_|refine eO ?_|apply aC<;>intro _|apply aX<;>intro _|apply fh<;>intro _|apply dG<;>intro _|refine ay ?_|refine av ?_|refine ptr ?_)<;>conv=>whnf)
   all_goals first
    | (exfalso;omega)
    | exact⟨bad O (λa=>(a O O O).1 O),rfl⟩
    | skip
   refine au (qN _ _ _ _ _ _ _ W ok O O) ?_;conv=>whnf
   apply fh<;>intro g;all_goals conv=>whnf
   ·apply aX<;>intro D;all_goals conv=>whnf
    ·exact⟨bad O (λa=>D ((a O O O).2 g).1),rfl⟩
    refine au (wC _ _ _ _ _ _ _ _ h V k5) ?_;conv=>whnf
    apply aX<;>intro p;all_goals conv=>whnf
    ·exact⟨bad O (λa=>p ((a O O O).2 g).2),rfl⟩
    refine av ?_;conv=>whnf
    refine cL (j+1) ⟨O,s (λb y z A=>⟨O,λ_=>⟨O,p⟩⟩)⟩ O rfl
   refine av ?_;conv=>whnf
   refine cL (j+1) ⟨O,s (λb y z A=>⟨O,λB=>by rw[g]at B;cases B⟩)⟩ O rfl
  refine av ?_;conv=>whnf
  refine cL (i+1) ⟨O,λe j v d Y b=>?_⟩ O rfl;rcases Nat.lt_succ_iff_lt_or_eq.1 Y with t|rfl
  ·exact F e j v d t b
  exact G j d O b
 exact⟨dH (λe j v d b=>F e j v d O b),rfl⟩
theorem aS {u:aI} {m:bT} {k a b p q:Int} (d:pI k=some (p,q)):dw u m ⟨k,a,b⟩↔bh u m a p a/\bh u m a q b:=by
 constructor
 ·rintro⟨f,g,c,e⟩;simp only[d,v_,Prod.mk.injEq]at c;obtain⟨rfl,rfl⟩:=c;exact e
 rintro h;exact⟨p,q,d,h⟩
theorem qP {k p q:Int} (b:pI k=some (p,q)):(k,ek p q)∈gS:=by
 rcases z9 k with ⟨_,h⟩|⟨i,c,d,h,a,_⟩
 ·rw[b]at h;cases h
 rw[b]at a;cases a;exact nE _ _ h
theorem eL {cs:List dB} (ok:bX cs) {c:Int} (a:c < cs.length):(bV cs c).length<=8:=by
 have:=pH ok 4 c a (by have:=ok.2.1;omega);omega
theorem Bq (B A:List Value) (u:aI) (m:bT) (x:dc) (h:Heap) (T:dn h B u) (N:dz h A m) (ok:bX u.ak) (f:cy x.a/\cy x.b) (hml:0<=m.locals) :
  Pure prog 121 [.agg ⟨B⟩,.agg ⟨A⟩,.agg #[.int .i64 x.kind,.int .i64 x.a,.int .i64 x.b]] h (tf (dw u m x)):=by
 obtain⟨V,C,W,ab,rfl,M,Q,jq,hl2⟩:=T.form;obtain⟨p1,c1,p2,c2,p3,c3,p4,c4,rfl,h1,h2,h3,I,h5,h6,h7,h8,b1,b2,b3,b4⟩:=N.form;obtain⟨c,a,b⟩:=x;simp only at f ⊢;obtain⟨h40,h41⟩:=I;refine Gz ax func121 P2 U rfl ?_;conv=>whnf
 refine av ?_;conv=>whnf
 refine au (dW _ _ _ _) ?_;conv=>whnf
 have X:∀(K:Value->Heap->Prop) (E:List PanicEntry->Heap->Prop),(0<=a/\a < u.ak.length)->(∀ q o e,h.le e->h.le e/\K (.slice q (bV u.ak a).length o) e)->gD prog 82 [.slice V u.ak.length C,.int .i64 a] h K E:=by
  intro K E v y;refine cP (jt _ _ _ _ _ _ _ M ok v.1 v.2 (Nat.lt_succ_self _)) ?_;rintro ad e ⟨hle,aa,R,_⟩;have H:=R.form;obtain⟨q,o,rfl,JD⟩:=H;have:=y q o e hle;simpa using this
 have L:(0<=a/\a < u.methods.length)->∃ g j,W=some ⟨g,j,none⟩/\rd h g (j+a.toNat*8)=some (.int .i64 (bz u a).cls):=by
  intro w;have d:a.toNat < u.methods.length:=by omega
  have s:=Q.get d;obtain⟨g,j,vs,t,D,F⟩:=s;obtain⟨_,_,_,_,G,_⟩:=F;subst G;have P:bz u a=u.methods[a.toNat]:=gY d O;exact⟨g,j,t,by rw[P];exact aJ D (i:=0) rfl⟩
 have IB:a < u.ak.length->(bV u.ak a).length<=8:=λf=>eL ok f;cases p:pI c with
 | none =>
  have y:c≠1/\c≠2/\c≠3/\c≠4/\c≠5/\c≠6/\c≠7/\c≠8/\c≠9/\c≠10/\c≠11/\c≠12/\c≠13/\c≠14/\c≠15/\c≠16/\c≠17/\c≠18/\c≠19/\c≠20/\c≠21/\c≠22/\c≠23/\c≠24:=by
   refine⟨?_,?_,?_,?_,?_,?_,?_,?_,?_,?_,?_,?_,?_,?_,?_,?_,?_,?_,?_,?_,?_,?_,?_,?_⟩<;>(rintro rfl;cases p)
  repeat' ((first|refine dm ?_|refine bZ ?_|refine eN ?_|refine eO ?_|apply aC<;>intro _|apply aX<;>intro _|apply fh<;>intro _|apply dG<;>intro _|refine ay ?_|refine av ?_|refine ptr ?_)<;>conv=>whnf)
  exact⟨bU (by rintro⟨_,_,f,_⟩;rw[p]at f;cases f),z_ h⟩
 | some Y =>
  obtain⟨wa,wb⟩:=Y;have d:=aS (u:=u) (m:=m) (a:=a) (b:=b) p;have z:=qP p;simp only[gS,ek,List.mem_cons,List.not_mem_nil,or_false,Prod.mk.injEq,Value.agg.injEq,Array.mk.injEq,List.cons.injEq,Value.int.injEq,true_and,and_true]at z;rcases z with ⟨rfl,rfl,rfl⟩|⟨rfl,rfl,rfl⟩|⟨rfl,rfl,rfl⟩|⟨rfl,rfl,rfl⟩|⟨rfl,rfl,rfl⟩|⟨rfl,rfl,rfl⟩|⟨rfl,rfl,rfl⟩|⟨rfl,rfl,rfl⟩|⟨rfl,rfl,rfl⟩|⟨rfl,rfl,rfl⟩|⟨rfl,rfl,rfl⟩|⟨rfl,rfl,rfl⟩|⟨rfl,rfl,rfl⟩|⟨rfl,rfl,rfl⟩|⟨rfl,rfl,rfl⟩|⟨rfl,rfl,rfl⟩|⟨rfl,rfl,rfl⟩|⟨rfl,rfl,rfl⟩|⟨rfl,rfl,rfl⟩|⟨rfl,rfl,rfl⟩|⟨rfl,rfl,rfl⟩|⟨rfl,rfl,rfl⟩|⟨rfl,rfl,rfl⟩|⟨rfl,rfl,rfl⟩;all_goals conv=>whnf
  rotate_left 19
  ·refine av ?_;conv=>whnf
   refine au (dW _ _ _ _) ?_;conv=>whnf
   apply aC<;>intro w;all_goals conv=>whnf
   ·have J:0<=a/\a < u.methods.length:=by omega
    have s:=L J;obtain⟨g,j,t,S⟩:=s;repeat' ((first|apply aC<;>intro _|apply aX<;>intro _|apply fh<;>intro _|apply dG<;>intro _|refine aL t ?_|refine ld S ?_|refine ay ?_|refine av ?_|refine ptr ?_)<;>conv=>whnf)
    all_goals first
     | exact⟨fA (by rw[d];simp[bh,isWord];omega),z_ _⟩
     | exact⟨bU (by rw[d];simp[bh,isWord];omega),z_ _⟩
     | exact⟨dH (by rw[d];simp[bh,isWord];omega),z_ _⟩
     | skip
   exact⟨bU (by rw[d];simp[bh,isWord];omega),z_ _⟩
  all_goals
   repeat' ((first|apply aC<;>intro _|apply aX<;>intro _|apply fh<;>intro _|apply dG<;>intro _|refine au (dW _ _ _ _) ?_|refine au (tE _ _) ?_|refine aP (dW _ _ _ _) ?_|refine X _ _ O (λq o e hle=>⟨hle,?_⟩)|refine ay ?_|refine av ?_|refine ptr ?_)<;>conv=>whnf)
   all_goals first
    | exact⟨fA (by rw[d];simp[bh,isWord];omega),by first|exact z_ _|assumption⟩
    | exact⟨bU (by rw[d];simp[bh,isWord];omega),by first|exact z_ _|assumption⟩
    | exact⟨dH (by rw[d];simp[bh,isWord];omega),by first|exact z_ _|assumption⟩
    | skip
theorem Cp (d b:List Value) (u:aI) (m:bT) (c:je) (h:Heap) (g:dn h d u) (f:dz h b m) (ok:bX u.ak) (K:cy c.lo/\cy c.hi/\cy c.to/\cy c.cls) :
  Pure prog 182 [.agg ⟨d⟩,.agg ⟨b⟩,.agg #[.int .i64 c.lo,.int .i64 c.hi,.int .i64 c.to,.int .i64 c.cls]] h (tf (mI u m c)):=by
 obtain⟨L,x,R,y,rfl,e,J,H,I⟩:=g.form;obtain⟨M,s,N,t,P,v,Q,w,rfl,z,A,B,C,D,E,F,G,j,o,p,q⟩:=f.form;refine gF ax func182 QL U rfl ?_;conv=>whnf
 repeat' ((first|apply aC<;>intro _|apply aX<;>intro _|apply fh<;>intro _|apply dG<;>intro _|refine au (dW _ _ _ _) ?_|refine au (oH _ _ _ _ _ _ _ e ok O O O) ?_|refine ay ?_|refine av ?_|refine ptr ?_)<;>conv=>whnf)
 all_goals first
  | exact⟨bU (by unfold mI;omega),rfl⟩
  | skip
 all_goals refine⟨?_,rfl⟩
 all_goals first
  | (cases a:up u.ak c.cls 1 with
   | true=>exact dH ⟨O,O,O,a⟩
   | false=>exact bU (λi=>by rw[i.2.2.2]at a;cases a))
theorem D7 (g o:List Value) (m n:bT) (h:Heap) (J:dz h g m) (K:dz h o n) :
  Pure prog 183 [.agg ⟨g⟩,.agg ⟨o⟩] h (tf (m.out=n.out/\m.args=n.args)):=by
 obtain⟨M,s,P,u,R,w,T,y,rfl,h1,h2,h3,h4,E,h6,h7,h8,b1,b2,b3,b4⟩:=J.form;obtain⟨N,t,Q,v,S,x,V,z,rfl,k1,k2,k3,k4,L,k6,k7,k8,d1,d2,d3,d4⟩:=K.form;refine gF ax func183 QM U rfl ?_;conv=>whnf
 apply aX<;>intro c;all_goals conv=>whnf
 ·exact⟨bU (λa=>c a.1),rfl⟩
 apply aX<;>intro e;all_goals conv=>whnf
 ·exact⟨bU (λa=>e (by rw[a.2])),rfl⟩
 have I:m.args.length=n.args.length:=by omega
 refine eF [2,3,5] [2,3] (λi:Nat=>i<=m.args.length/\∀ j (b:j < m.args.length),j < i->m.args[j]=n.args[j]) (λi=>m.args.length-i)
  (λi=>([.l 2 0,.l 3 0,.v (.int .i64 i)],
   [some [.int .i64 m.cls,.int .i64 m.eu,.slice M m.args.length s,.int .i64 m.out,.int .i64 m.locals,.slice P m.code.length u,.slice R m.aF.length w,.slice T m.catches.length y],some [.int .i64 n.cls,.int .i64 n.eu,.slice N n.args.length t,.int .i64 n.out,.int .i64 n.locals,.slice Q n.code.length v,.slice S n.aF.length x,.slice V n.catches.length z]],h)) 0 ⟨O,λl hl h=>O⟩ rfl ?_
 rintro i ⟨hi,f⟩;conv=>whnf
 apply aC<;>intro C;all_goals conv=>whnf
 ·have F:i < m.args.length:=by omega
  have G:i < n.args.length:=by omega
  have A:=E.get F;have B:=L.get G;obtain⟨Xc,o1,Xi,W,p,q,a3⟩:=A;obtain⟨b2',o2,Xj,X,f1,f2,f3⟩:=B;subst q f2;have Y:=aJ p (i:=0) rfl;have r2:=aJ f1 (i:=0) rfl;repeat' ((first|refine ay ?_|refine aL W ?_|refine aL X ?_|refine ld Y ?_|refine ld r2 ?_)<;>conv=>whnf)
  apply aX<;>intro d;all_goals conv=>whnf
  ·refine⟨bU (λa=>d ?_),rfl⟩;simp[a.2]
  refine av ?_;conv=>whnf
  refine cL (i+1) ⟨O,λj b H=>?_⟩ O rfl;rcases Nat.lt_succ_iff_lt_or_eq.1 H with D|rfl
  ·exact f j b D
  exact d
 refine⟨dH ⟨c,?_⟩,rfl⟩;exact List.ext_getElem I (λj b _=>f j b O)
def gJ (u:aI) (m:bT):Prop:=eC u.ak.length m/\vh u m/\kJ u m
theorem Aa (T K:List Value) (u:aI) (m:bT) (h:Heap) (J:dn h T u) (I:dz h K m) (ok:bX u.ak) :
  Pure prog 125 [.agg ⟨T⟩,.agg ⟨K⟩] h (tf (gJ u m)):=by
 have z:=J;have x:=I;obtain⟨L,E,R,F,rfl,hcs,lR,jq,hl2⟩:=J.form;obtain⟨M,A,N,B,P,C,Q,D,rfl,h1,h2,h3,h4,h5,h6,h7,h8,b1,b2,b3,b4⟩:=I.form;have d:¬gJ u m->.bool false=tf (gJ u m):=λa=>(cD a).symm;refine gF ax func125 P4 U rfl ?_;conv=>whnf
 refine au (D5 _ _ u m h z x) ?_;conv=>whnf
 apply aX<;>intro o;all_goals conv=>whnf
 ·exact⟨d (λa=>o a.1),rfl⟩
 refine au (dW _ _ _ _) ?_;conv=>whnf
 apply aX<;>intro g2;all_goals conv=>whnf
 ·exact⟨d (λa=>by have:=a.2.1.1;have:=a.2.1.2.1;omega),rfl⟩
 apply aX<;>intro g3;all_goals conv=>whnf
 ·exact⟨d (λa=>by have:=a.2.1.2.2.1;omega),rfl⟩
 apply aC<;>intro g4;all_goals conv=>whnf
 ·exact⟨d (λa=>by have:=a.2.2.1;omega),rfl⟩
 have D8:0<=m.locals:=by have:=o.2.2.2.2.2;omega
 refine eF [2,3,5] [2,3] (λi:Nat=>i<=m.code.length/\∀ j (b:j < m.code.length) (H:j < m.aF.length),j < i->dw u m m.code[j]/\mH u.ak.length m.locals m.aF[j]) (λi=>m.code.length-i)
  (λi=>([.l 2 0,.l 3 0,.v (.int .i64 i)],
   [some [.slice L u.ak.length E,.slice R u.methods.length F],some [.int .i64 m.cls,.int .i64 m.eu,.slice M m.args.length A,.int .i64 m.out,.int .i64 m.locals,.slice N m.code.length B,.slice P m.aF.length C,.slice Q m.catches.length D]],h)) 0 ⟨O,λl hl _ h=>O⟩ rfl ?_
 rintro i ⟨hi,e⟩;conv=>whnf
 apply aC<;>intro g5;all_goals conv=>whnf
 ·have v:i < m.code.length:=by omega
  have Lu:i < m.aF.length:=by omega
  have p:=h6.get v;obtain⟨V,off,vs,y,q,s,G,W,X⟩:=p;subst s;have Y:=h7.get Lu;obtain⟨OH,z6,Lt,JR,f1,l,k,f2,f3,f4⟩:=Y;subst f2;obtain⟨p5,c5,rfl,_,_⟩:=f3.len;obtain⟨p6,c6,rfl,_,_⟩:=f4.len;refine ay ?_;conv=>whnf
  refine aL y ?_;conv=>whnf
  refine dZ q ?_;conv=>whnf
  refine aP (Bq _ _ u m _ h z x ok ⟨W,X⟩ D8) ?_;conv=>whnf
  apply aX<;>intro f;all_goals conv=>whnf
  ·exact⟨d (λa=>f (a.2.1.2.2.2.1 _ (x_ _))),rfl⟩
  refine ay ?_;conv=>whnf
  refine aL JR ?_;conv=>whnf
  refine dZ f1 ?_;conv=>whnf
  refine aP (z8 _ _ _ _ _ _ _ _ h hcs f3 f4) ?_;conv=>whnf
  apply aX<;>intro c;all_goals conv=>whnf
  ·exact⟨d (λa=>c ⟨ok,a.2.1.2.2.2.2 _ (x_ _)⟩),rfl⟩
  refine av ?_;conv=>whnf
  refine cL (i+1) ⟨O,λj b H w=>?_⟩ O rfl;rcases Nat.lt_succ_iff_lt_or_eq.1 w with t|rfl
  ·exact e j b H t
  exact⟨f,c.2⟩
 have hA:∀ ab∈m.code,dw u m ab:=by
  intro S g;obtain⟨j,b,rfl⟩:=List.mem_iff_getElem.1 g;exact(e j b O O).1
 have hB:∀ aa∈m.aF,mH u.ak.length m.locals aa:=by
  intro S g;obtain⟨j,b,rfl⟩:=List.mem_iff_getElem.1 g;exact(e j O b O).2
 have hC:vh u m:=⟨O,O,O,hA,hB⟩
 refine eF [2,3,6] [2,3] (λi:Nat=>i<=m.catches.length/\∀ j (b:j < m.catches.length),j < i->mI u m m.catches[j]) (λi=>m.catches.length-i)
  (λi=>([.l 2 0,.l 3 0,.v (.int .i64 i)],
   [some [.slice L u.ak.length E,.slice R u.methods.length F],some [.int .i64 m.cls,.int .i64 m.eu,.slice M m.args.length A,.int .i64 m.out,.int .i64 m.locals,.slice N m.code.length B,.slice P m.aF.length C,.slice Q m.catches.length D]],h)) 0 ⟨O,λl hl h=>O⟩ rfl ?_
 rintro i ⟨hi,e⟩;conv=>whnf
 apply aC<;>intro f;all_goals conv=>whnf
 ·have v:i < m.catches.length:=by omega
  have p:=h8.get v;obtain⟨V,off,vs,y,q,s,G⟩:=p;subst s;refine ay ?_;conv=>whnf
  refine aL y ?_;conv=>whnf
  refine dZ q ?_;conv=>whnf
  refine aP (Cp _ _ u m _ h z x ok G) ?_;conv=>whnf
  apply aX<;>intro c;all_goals conv=>whnf
  ·exact⟨d (λa=>c (a.2.2.2 _ (x_ _))),rfl⟩
  refine av ?_;conv=>whnf
  refine cL (i+1) ⟨O,λj b w=>?_⟩ O rfl;rcases Nat.lt_succ_iff_lt_or_eq.1 w with t|rfl
  ·exact e j b t
  exact c
 refine⟨dH ⟨o,hC,O,?_⟩,rfl⟩;intro S g;obtain⟨j,b,rfl⟩:=List.mem_iff_getElem.1 g;exact e j b O
theorem pJ {cs:List dB} (ok:bX cs) {a:Int} (h0:0<=a) (b:a < cs.length):up cs a a=true:=by
 rw[fK ok h0 b];simp
theorem Cq (L:List Value) (u:aI) (h:Heap) (hu:dn h L u) (ok:bX u.ak) (F:∀ m∈u.methods,-1<=m.cls/\m.cls < u.ak.length) :
  Pure prog 126 [.agg ⟨L⟩] h (tf (lS u)):=by
 obtain⟨J,C,K,D,rfl,S,I,jq,hl2⟩:=hu.form;have no:¬lS u->.bool false=tf (lS u):=λb=>(cD b).symm;refine gF ax func126 P5 U rfl ?_;conv=>whnf
 refine eF [1,3] [1] (λi:Nat=>i<=u.methods.length/\∀ e j (T:e < u.methods.length) (d:j < u.methods.length),e < i->e≠j->mJ u u.methods[e] u.methods[j]) (λi=>u.methods.length-i)
  (λi=>([.l 1 0,.v (.int .i64 i)],[some [.slice J u.ak.length C,.slice K u.methods.length D]],h)) 0 ⟨O,λ_ _ _ _ b=>O⟩ rfl ?_
 rintro i ⟨T,G⟩;conv=>whnf
 apply aC<;>intro Q;all_goals conv=>whnf
 ·have w:i < u.methods.length:=by omega
  have g:=I.get w;obtain⟨bb,off,vs,Y,M,E⟩:=g;have IA:=F _ (x_ w);have N:=E;obtain⟨p1,c1,p2,c2,p3,c3,p4,c4,P,h1,h2,h3,h4,h5,h6,h7,h8,b1,b2,b3,b4⟩:=E.form;subst P;refine eF [1,3,4] [1] (λj:Nat=>j<=u.methods.length/\∀ c (d:c < u.methods.length),c < j->i≠c->mJ u u.methods[i] u.methods[c]) (λj=>u.methods.length-j)
   (λj=>([.l 1 0,.v (.int .i64 i),.v (.int .i64 j)],
    [some [.slice J u.ak.length C,.slice K u.methods.length D]],h)) 0 ⟨O,λ_ _ b=>O⟩ rfl ?_
  rintro j ⟨d,H⟩;conv=>whnf
  apply aC<;>intro R;all_goals conv=>whnf
  ·have v:j < u.methods.length:=by omega
   have g:=I.get v;obtain⟨OH,z6,Lt,JR,f1,f2⟩:=g;have Xg:=F _ (x_ v);have f20:=f2;obtain⟨RB,Mn,RC,Mo,GK,Gk,RD,RE,f3,y,z,A,B,k5,k6,k7,k8,d1,d2,d3,d4⟩:=f2.form;subst f3;have bad:i≠j->¬mJ u u.methods[i] u.methods[j]->Value.bool false=tf (lS u):=λa b=>no (λx=>b (x i j w v a));have q:(i≠j->mJ u u.methods[i] u.methods[j])->∀ c (d:c < u.methods.length),c < j+1->i≠c->mJ u u.methods[i] u.methods[c]:=by
    intro b c W X a;rcases Nat.lt_succ_iff_lt_or_eq.1 X with s|rfl
    ·exact H c W s a
    exact b a
   refine ay ?_;conv=>whnf
   refine aL Y ?_;conv=>whnf
   refine dZ M ?_;conv=>whnf
   refine ay ?_;conv=>whnf
   refine aL JR ?_;conv=>whnf
   refine dZ f1 ?_;conv=>whnf
   by_cases Mp:(i:Int)=j\/u.methods[i].cls < 0\/u.methods[j].cls < 0\/u.methods[i].eu≠u.methods[j].eu
   ·repeat' ((first|refine dm ?_|refine bZ ?_|refine eN ?_|refine eO ?_|apply aC<;>intro _|apply aX<;>intro _|apply fh<;>intro _|apply dG<;>intro _|refine ay ?_|refine av ?_|refine ptr ?_)<;>conv=>whnf)
    all_goals first
     | (exfalso;omega)
     | (refine cL (j+1) ⟨O,q (λa y z A=>O)⟩ O rfl)
   repeat' ((first|refine dm ?_|refine bZ ?_|refine eN ?_|refine eO ?_|apply aC<;>intro _|apply aX<;>intro _|apply fh<;>intro _|apply dG<;>intro _|refine ay ?_|refine av ?_|refine ptr ?_)<;>conv=>whnf)
   refine au (oH _ _ _ _ _ _ _ S ok O O O) ?_;conv=>whnf
   apply fh<;>intro f;all_goals conv=>whnf
   ·apply aC<;>intro o;all_goals conv=>whnf
    ·exact⟨bad O (λb=>(b O O O).1 o),rfl⟩
    refine au (D7 _ _ _ _ h N f20) ?_;conv=>whnf
    apply aX<;>intro p;all_goals conv=>whnf
    ·exact⟨bad O (λb=>p ((b O O O).2 f)),rfl⟩
    refine av ?_;conv=>whnf
    refine cL (j+1) ⟨O,q (λa y z A=>⟨o,λ_=>p⟩)⟩ O rfl
   refine av ?_;conv=>whnf
   refine cL (j+1) ⟨O,q (λa y z A=>⟨λx=>?_,λB=>by rw[f]at B;cases B⟩)⟩ O rfl;rw[x,pJ ok O O]at f;cases f
  refine av ?_;conv=>whnf
  refine cL (i+1) ⟨O,λe j t d V a=>?_⟩ O rfl;rcases Nat.lt_succ_iff_lt_or_eq.1 V with s|rfl
  ·exact G e j t d s a
  exact H j d O a
 exact⟨dH (λe j t d a=>G e j t d O a),rfl⟩
def bS (u:aI):Prop:=bX u.ak/\(1<=u.methods.length/\u.methods.length<=4)/\((bz u 0).cls = -1/\(bz u 0).args=[]/\(bz u 0).out=1)/\(∀ m∈u.methods,gJ u m)/\lS u
theorem gJ.cls {u:aI} {m:bT} (a:gJ u m) : -1<=m.cls/\m.cls < u.ak.length:=by
 have:=a.1.1;omega
theorem vj (z:List Value) (u:aI) (h:Heap) (x:dn h z u):Pure prog 51 [.agg ⟨z⟩] h (tf (bS u)):=by
 have y:=x;obtain⟨R,A,S,B,rfl,K,w,jq,hl2⟩:=x.form;have b:¬bS u->.bool false=tf (bS u):=λa=>(cD a).symm;refine gF ax func51 WE U rfl ?_;conv=>whnf
 refine au (lQ _ _ _ _ h K) ?_;conv=>whnf
 apply aX<;>intro ok;all_goals conv=>whnf
 ·exact⟨b (λa=>ok a.1),rfl⟩
 refine au (dW _ _ _ _) ?_;conv=>whnf
 apply aX<;>intro G;all_goals conv=>whnf
 ·exact⟨b (λa=>by have:=a.2.1;omega),rfl⟩
 have s:0 < u.methods.length:=by omega
 have d:bz u 0=u.methods[0]:=gY s rfl;have C:=w.get s;obtain⟨Y,off,vs,p,e,D⟩:=C;obtain⟨p1,c1,p2,c2,p3,c3,p4,c4,E,h1,h2,h3,h4,h5,h6,h7,h8,T,V,W,X⟩:=D.form;subst E;refine ay ?_;conv=>whnf
 refine aL p ?_;conv=>whnf
 refine ld (aJ e (i:=0) rfl) ?_;conv=>whnf
 apply aX<;>intro f;all_goals conv=>whnf
 ·exact⟨b (λa=>f (by rw[<-d];exact a.2.2.1.1)),rfl⟩
 refine ay ?_;conv=>whnf
 refine aL p ?_;conv=>whnf
 refine ld (aJ e (i:=2) rfl) ?_;conv=>whnf
 apply aC<;>intro g;all_goals conv=>whnf
 ·exact⟨b (λa=>by have:=a.2.2.1.2.1;rw[d]at this;rw[this]at g;simp at g),rfl⟩
 refine ay ?_;conv=>whnf
 refine aL p ?_;conv=>whnf
 refine ld (aJ e (i:=3) rfl) ?_;conv=>whnf
 apply aX<;>intro m;all_goals conv=>whnf
 ·exact⟨b (λa=>m (by rw[<-d];exact a.2.2.1.2.2)),rfl⟩
 refine eF [1,3] [1] (λi:Nat=>i<=u.methods.length/\∀ j (c:j < u.methods.length),j < i->gJ u u.methods[j]) (λi=>u.methods.length-i)
  (λi=>([.l 1 0,.v (.int .i64 i)],[some [.slice R u.ak.length A,.slice S u.methods.length B]],h)) 0 ⟨O,λ_ _ a=>O⟩ rfl ?_
 rintro i ⟨hi,v⟩;conv=>whnf
 apply aC<;>intro H;all_goals conv=>whnf
 ·have L:i < u.methods.length:=by omega
  have F:=w.get L;obtain⟨OH,z6,Lt,P,f1,f2⟩:=F;have f20:=f2;obtain⟨RB,Mn,RC,Mo,GK,Gk,RD,RE,f3,_⟩:=f2.form;subst f3;refine ay ?_;conv=>whnf
  refine aL P ?_;conv=>whnf
  refine dZ f1 ?_;conv=>whnf
  refine aP (Aa _ _ u _ h y f20 ok) ?_;conv=>whnf
  apply aX<;>intro o;all_goals conv=>whnf
  ·exact⟨b (λa=>o (a.2.2.2.1 _ (x_ _))),rfl⟩
  refine av ?_;conv=>whnf
  refine cL (i+1) ⟨O,λj c M=>?_⟩ O rfl;rcases Nat.lt_succ_iff_lt_or_eq.1 M with I|rfl
  ·exact v j c I
  exact o
 have t:∀ q∈u.methods,gJ u q:=by
  intro aa Q;obtain⟨j,c,rfl⟩:=List.mem_iff_getElem.1 Q;exact v j c O
 refine au (Cq _ u h y ok (λq N=>(t q N).cls)) ?_;conv=>whnf
 have J:u.methods[0].args=[]:=List.eq_nil_of_length_eq_zero O;exact⟨fA ⟨λa=>a.2.2.2.2,λa=>⟨ok,O,by rw[d];exact⟨f,J,m⟩,t,a⟩⟩,rfl⟩
theorem yw (E:List Value) (u:aI) (h:Heap) (D:dn h E u):Pure prog 40 [.agg ⟨E⟩] h (tf (bS u)):=by
 have tH:=D;obtain⟨aa,F,x,m,rfl,S,C,jq,hl2⟩:=D.form;have b:¬bS u->.bool false=tf (bS u):=λa=>(cD a).symm;refine Gz ax func40 Wy U rfl ?_;conv=>whnf
 refine au (yj _ _ _ _ h S) ?_;conv=>whnf
 apply aX<;>intro ok;all_goals conv=>whnf
 ·exact⟨b (λa=>ok a.1),z_ h⟩
 apply aC<;>intro L;all_goals conv=>whnf
 ·exact⟨b (λa=>by have:=a.2.1;omega),z_ h⟩
 apply aC<;>intro M;all_goals conv=>whnf
 ·exact⟨b (λa=>by have:=a.2.1;omega),z_ h⟩
 have y:0 < u.methods.length:=by omega
 have f:bz u 0=u.methods[0]:=gY y rfl;have G:=C.get y;obtain⟨bb,off,vs,Y,H,I⟩:=G;obtain⟨p1,c1,p2,c2,p3,c3,p4,c4,J,h1,h2,h3,h4,h5,h6,h7,h8,b1,b2,b3,b4⟩:=I.form;subst J;refine ay ?_;conv=>whnf
 refine aL Y ?_;conv=>whnf
 refine dZ H ?_;conv=>whnf
 apply aX<;>intro o;all_goals conv=>whnf
 ·exact⟨b (λa=>o (by rw[<-f];exact a.2.2.1.1)),z_ h⟩
 apply aX<;>intro p;all_goals conv=>whnf
 ·exact⟨b (λa=>by have:=a.2.2.1.2.1;rw[f]at this;rw[this]at p;simp at p),z_ h⟩
 apply aX<;>intro q;all_goals conv=>whnf
 ·exact⟨b (λa=>q (by rw[<-f];exact a.2.2.1.2.2)),z_ h⟩
 refine aB (GI h) ?_;rintro ad h' ⟨c,rfl,R,rfl⟩;conv=>whnf
 have hle:h.le (h.set c (mB gS)):=Heap.aT (z_ h) R;have A:(h.set c (mB gS)) c=some (mB gS):=by simp[Heap.set]
 generalize h.set c (mB gS)=d at hle A ⊢;have g:=tH.le hle;have X:Row 8 dz d (.slice x u.methods.length m) u.methods:=C.le hle (λ_ _ a=>a.le hle);refine eF [1,4,43,44,45] [1] (λi:Nat=>i<=u.methods.length/\∀ j (e:j < u.methods.length),j < i->gJ u u.methods[j]) (λi=>u.methods.length-i)
  (λi=>([.l 1 0,.v (.map (some c)),.v (.slice x u.methods.length m),.v (.int .i64 u.methods.length),.v (.int .i64 i)],[some [.slice aa u.ak.length F,.slice x u.methods.length m]],d)) 0 ⟨O,λ_ _ a=>O⟩ rfl ?_
 rintro i ⟨hi,B⟩;conv=>whnf
 apply aC<;>intro N;all_goals conv=>whnf
 ·have T:i < u.methods.length:=by omega
  have K:=X.get T;obtain⟨OH,z6,Lt,JR,f1,f2⟩:=K;have f20:=f2;obtain⟨RB,Mn,RC,Mo,GK,Gk,RD,RE,f3,_⟩:=f2.form;subst f3;refine ay ?_;conv=>whnf
  refine aL JR ?_;conv=>whnf
  refine dZ f1 ?_;conv=>whnf
  refine au (D4 _ _ u _ d g f20) ?_;conv=>whnf
  apply aX<;>intro s;all_goals conv=>whnf
  ·exact⟨b (λa=>s (a.2.2.2.1 _ (x_ _)).1),hle⟩
  refine au (D6 _ _ u _ c d g f20 ok A) ?_;conv=>whnf
  apply aX<;>intro t;all_goals conv=>whnf
  ·exact⟨b (λa=>t (a.2.2.2.1 _ (x_ _)).2.1),hle⟩
  refine au (yu _ _ u _ d g f20 ok) ?_;conv=>whnf
  apply aX<;>intro v;all_goals conv=>whnf
  ·exact⟨b (λa=>v (a.2.2.2.1 _ (x_ _)).2.2),hle⟩
  refine av ?_;conv=>whnf
  refine cL (i+1) ⟨O,λj e V=>?_⟩ O rfl;rcases Nat.lt_succ_iff_lt_or_eq.1 V with P|rfl
  ·exact B j e P
  exact⟨s,t,v⟩
 have z:∀ w∈u.methods,gJ u w:=by
  intro ab ht;obtain⟨j,e,rfl⟩:=List.mem_iff_getElem.1 ht;exact B j e O
 refine au (GJ _ u d g ok (λw W=>(z w W).cls)) ?_;conv=>whnf
 have Q:u.methods[0].args=[]:=List.eq_nil_of_length_eq_zero O;exact⟨fA ⟨λa=>a.2.2.2.2,λa=>⟨ok,O,by rw[f];exact⟨o,Q,q⟩,z,a⟩⟩,hle⟩
end Go.Proofs
