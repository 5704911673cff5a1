/- Part 2 of the lemmas on which the law rests: what functions of the program and of the reference do; no conditions but those that each lemma states. -/
import Derived.Below
import Derived.Laws.StructEq
import Derived.Laws.Cover3
import Derived.Defers
import Derived.Recover
import Derived.Test.YthkgbjpkklkppaaGreatProg
import Derived.Test.YthkgbjpkklkppaaGreatMa1
set_option linter.unusedSimpArgs false
set_option linter.unusedVariables false
namespace Go.Vc
open Go.RowKit
set_option linter.constructorNameAsVariable false
def bI (P:Program) (f:FuncId) (args:List Value) (h:Heap) (R:Value->Heap->Prop):Prop :=
 cF P f args h λo a=>match o with
  | .ret v=>R v a
  | .jj _=>False
def Pure (P:Program) (f:FuncId) (args:List Value) (h:Heap) (x:Value):Prop:=bI P f args h λv a=>v=x/\a=h
variable {P:Program} {f:FuncId} {args:List Value} {h:Heap} {K:Value->Heap->Prop} {E:List PanicEntry->Heap->Prop} {R:Value->Heap->Prop} {w:World}
theorem aG (b:bI P f args h R) (c:∀ v h',R v h'->K v h'):Call P f args h K E:=by
 rw[pY];unfold tQ;refine cF.mono b λo h' a=>?_;cases o with
 | ret v=>exact c v h' a
 | jj d=>exact a.elim
theorem cO (b:bI P f args h R) (c:∀ v h',R v h'->h.le h'/\K v h'):fE P f args h K E:=by
 rw[nU];unfold rI;refine cF.mono b λo h' a=>?_;cases o with
 | ret v=>exact c v h' a
 | jj d=>exact a.elim
theorem cW {R:Out->Heap->Prop} (b:cF P f args h R) (e:∀ v h',R (.ret v) h'->K v h') (d:∀ c h',R (.jj c) h'->E c h'):Call P f args h K E:=by
 rw[pY];unfold tQ;refine cF.mono b λo h' a=>?_;cases o with
 | ret v=>exact e v h' a
 | jj c=>exact d c h' a
theorem od {R:Out->Heap->Prop} (b:cF P f args h R) (e:∀ v h',R (.ret v) h'->h.le h'/\K v h') (d:∀ c h',R (.jj c) h'->E c h'):fE P f args h K E:=by
 rw[nU];unfold rI;refine cF.mono b λo h' a=>?_;cases o with
 | ret v=>exact e v h' a
 | jj c=>exact d c h' a
theorem outs {S:iK} (a:dg P S) {fn:Func} (b:P.funcs[f]? = some fn) (F:Fs) {k:Nat} (d:gH F fn k=true) {R:Out->Heap->Prop} (c:args.length=k) (e:Goal P S F fn args h R):cF P f args h R:=by
 subst c;exact calls a b F d e
theorem ax {x:Value} (a:Pure P f args h x) (b:K x h):Call P f args h K E:=aG a (by rintro v c ⟨rfl,rfl⟩;exact b)
theorem aO {x:Value} (a:Pure P f args h x) (b:K x h):fE P f args h K E:=cO a (by rintro v c ⟨rfl,rfl⟩;exact⟨Heap.le_refl _,b⟩)
theorem bI.mono {a:Value->Heap->Prop} (c:bI P f args h R) (d:∀ v h',R v h'->a v h'):bI P f args h a :=
 cF.mono c λo h' b=>by
  cases o with
  | ret v=>exact d v h' b
  | jj e=>exact b.elim
theorem bT {S:iK} (a:dg P S) {fn:Func} (b:P.funcs[f]? = some fn) (F:Fs) {k:Nat} (d:gH F fn k=true) (c:args.length=k) (e:Goal P S F fn args h λo h'=>match o with
  | .ret v=>R v h'
  | .jj _=>False):bI P f args h R:=by
 subst c;exact calls a b F d e
theorem cF.shrink {R c:Out->Heap->Prop} (s:cF P f args h R) (u:∀ o h',R o h'->∃ a:Heap,a.le h'/\c o a):cF P f args h c:=by
 intro w v;refine(s w v).mono ?_;rintro p y ⟨h',m,e⟩;have j:∀ o,R o h'->∃ a:Heap,cK h w a y/\c o a:=by
  intro o t;obtain⟨a,i,q⟩:=u o h' t;refine⟨a,⟨λb x d=>m.view b x (i b x d),m.aJ,λb d=>m.tG b ?_,m.size,m.fz,m.out⟩,q⟩;cases g:a b with
  | none=>exact absurd g d
  | some x=>rw[i b x g];simp
 cases p with
 | returned A=>exact j _ e
 | panicked z=>exact j _ e
 | outgrown=>exact⟨h',m,e⟩
def Rq (h h':Heap):Prop:=∀(b:Nat) (a:Array Value) (t:TypeId) (z:Nat × Nat),h' b=some (Obj.cells a t z)->z=(0,0)\/h b=some (Obj.cells a t z)
theorem cF.fz {R:Out->Heap->Prop} (s:cF P f args h R):cF P f args h λo h'=>R o h'/\Rq h h':=by
 intro w i;refine(s w i).mono ?_;rintro q x ⟨h',m,c⟩;have j:Rq h h':=λb p t z d=>by
  rcases m.fz b p t z (m.view b _ d)with a|a
  ·exact .inl a
  rcases m.tG b (by rw[d];simp)with e|e
  ·cases g:h b with
   | none=>exact absurd g e
   | some o =>
    have:=i b o g;rw[a]at this;exact .inr this.symm
  have:=dX a;omega
 refine⟨h',m,?_⟩;cases q with
 | returned v=>exact⟨c,j⟩
 | panicked u=>exact⟨c,j⟩
 | outgrown=>exact c
theorem bI.fz (b:bI P f args h R):bI P f args h λv h'=>R v h'/\Rq h h':=by
 refine cF.mono (cF.fz b) λo h' a=>?_;cases o with
 | ret v=>exact a
 | jj c=>exact a.1.elim
theorem fD {S:iK} (a:dg P S) {fn:Func} (b:P.funcs[f]? = some fn) (F:Fs) {k:Nat} (d:gH F fn k=true) {x:Value} (c:args.length=k) (e:Goal P S F fn args h λo h'=>match o with
  | .ret v=>v=x/\h'=h
  | .jj _=>False):Pure P f args h x:=by
 subst c;exact calls a b F d e
theorem Il {S:iK} (b:dg P S) {fn:Func} (c:P.funcs[f]? = some fn) (F:Fs) {k:Nat} (e:gH F fn k=true) {x:Value} (d:args.length=k) (g:Goal P S F fn args h λo h'=>match o with
  | .ret v=>v=x/\h.le h'
  | .jj _=>False):Pure P f args h x:=by
 subst d;unfold Pure bI;refine(calls b c F e g).shrink λo h' a=>?_;cases o with
 | ret v=>exact⟨h,a.2,a.1,rfl⟩
 | jj i=>exact a.elim
theorem aD {p:Prop} {_:Decidable p} {t f:Prop} (b:p->t) (a:¬p->f):@Bool.rec (λ_=>Prop) f t (decide p):=by
 by_cases h:p
 ·rw[decide_eq_true h];exact b h
 rw[decide_eq_false h];exact a h
theorem aU {p:Prop} {_:Decidable p} {t f:Prop} (b:¬p->t) (a:p->f):@Bool.rec (λ_=>Prop) f t (!decide p):=by
 by_cases h:p
 ·rw[decide_eq_true h];exact a h
 rw[decide_eq_false h];exact b h
theorem dM {b:Bool} {t f:Prop} (c:b=true->t) (a:b=false->f):@Bool.rec (λ_=>Prop) f t b:=by
 cases b
 ·exact a rfl
 exact c rfl
theorem cq {b:Bool} {t f:Prop} (c:b=false->t) (a:b=true->f):@Bool.rec (λ_=>Prop) f t (!b):=by
 cases b
 ·exact c rfl
 exact a rfl
theorem wrap_i64 {x:Int} (h0 : -9223372036854775808<=x) (a:x<=9223372036854775807):IntKind.i64.wrap x=x:=by
 simp[IntKind.wrap,IntKind.bits,IntKind.signed];omega
theorem E0 {x:Int} {K:Int->Prop} (h0 : -9223372036854775808<=x) (a:x<=9223372036854775807) (b:K x):Ar .i64 x K:=by
 rw[gu,wrap_i64 h0 a];exact b
theorem m7 {k:IntKind} {x:Int} {K:Int->Prop} (a:K (k.wrap x)):Ar k x K:=gu.2 a
theorem ob {p q:Prop} (a:p) (b:q):Ob p q:=cG.2 ⟨a,b⟩
theorem av {x:Int} {K:Int->Prop} (b:K x) (h0 : -9223372036854775808<=x:=by omega) (a:x<=9223372036854775807:=by omega):Ar .i64 x K:=E0 h0 a b
theorem ay {p q:Prop} (b:q) (a:p:=by omega):Ob p q:=ob a b
theorem ld {b off:Nat} {v:Value} {K:Value->Prop} (c:rd h b off=some v) (a:K v):Ld h b off K:=by rw[tR];unfold K9;exact⟨v,c,a⟩
theorem dh {b off n:Nat} {vs:List Value} {K:List Value->Prop} (c:dQ h b off n=some vs) (a:K vs):Rd h b off n K:=by rw[pZ];unfold AM;exact⟨vs,c,a⟩
theorem ptr {b off:Nat} {K:Nat->Nat->Prop} (a:K b off):Ptr (some ⟨b,off,none⟩) K:=by rw[nV];unfold yI;exact⟨b,off,rfl,a⟩
theorem aP {p:Option Addr} {b off:Nat} {K:Nat->Nat->Prop} (c:p=some ⟨b,off,none⟩) (a:K b off):Ptr p K:=by rw[nV];unfold yI;exact⟨b,off,c,a⟩
theorem st {b off:Nat} {vs:List Value} {K:Heap->Prop} {cs:List Value} {t:TypeId} (a:h b=some (.cells cs.toArray t (0,0))) (d:off+vs.length<=cs.length) (c:K (h.set b (.cells (dU cs off vs).toArray t (0,0)))):St h b off vs K:=by
 rw[AO];unfold NT;exact⟨cs.toArray,t,a,by simpa using d,c⟩
theorem new {cs:List Value} {t:TypeId} {K:Nat->Heap->Prop} (a:∀ b,h b=none->K b (h.set b (.cells cs.toArray t))):EF h cs t K:=by rw[lQ];unfold xk;exact a
theorem lp {d:(Ex->Env->Heap->Prop)->Env->Heap->Prop} {K:Ex->Env->Heap->Prop} {e:Env} (b a:List Nat) (Inv:Nat->List Slot->List (Option (List Value))->Heap->Prop) (n:Nat) (h0:Inv n (b.map e.s) (a.map e.b) h)
  (g:∀ n vs cs h,Inv n vs cs h->d (λx e' h'=>match x with | .normal=>∃ m,m < n/\Inv m (b.map e'.s) (a.map e'.b) h' | .exit i=>K (.exit i) e' h' | .ret=>K .ret e' h' | .jj c=>K (.jj c) e' h') (tT b a vs cs) h):Lp d K e h:=by
 rw[EK];unfold Qo;exact⟨b,a,Inv,⟨n,h0⟩,g⟩
theorem eu {g:Type} {o:(Ex->Env->Heap->Prop)->Env->Heap->Prop} {K:Ex->Env->Heap->Prop} {e:Env} (b a:List Nat) (St:g->Prop) (m:g->Nat) (f:g->List Slot × List (Option (List Value)) × Heap) (d:g)
  (h0:St d) (v:f d=(b.map e.s,a.map e.b,h))
  (y:∀ s,St s->o (λx e' h'=>match x with | .normal=>∃ k,k < m s/\∃ j,St j/\m j=k/\f j=(b.map e'.s,a.map e'.b,h') | .exit i=>K (.exit i) e' h' | .ret=>K .ret e' h' | .jj c=>K (.jj c) e' h') (tT b a (f s).1 (f s).2.1) (f s).2.2):Lp o K e h:=by
 refine lp b a (λn q p h'=>∃ s,St s/\m s=n/\f s=(q,p,h')) (m d) ⟨d,h0,rfl,v⟩ ?_;rintro n q p h' ⟨s,t,rfl,u⟩;have:=y s t;rw[u]at this;exact this
theorem cT {b:Type} {St:b->Prop} {m:b->Nat} {f:b->List Slot × List (Option (List Value)) × Heap} {t:List Slot × List (Option (List Value)) × Heap} {n:Nat} (a:b) (c:St a) (d:m a < n) (e:f a=t):∃ k,k < n/\∃ a,St a/\m a=k/\f a=t:=⟨_,d,a,c,rfl,e⟩
theorem J3 {o:Oper} {e:Env} {b:Value->Heap->Prop} {v:Value} (g:∀ x∈o.op.operands,∃ v,e.get x=.v v)
  (d:∀ a:Operand->Value,(∀ x∈o.op.operands,e.get x=.v (a x))->∀ w:World,(execOp a o).run P w=.ok (.value v) w) (c:b v h):Raw P o e h b:=by
 rw[ki];unfold vM;exact⟨g,λa j w i=>⟨v,w,h,.inl (d a j w),cK.refl i,c⟩⟩
theorem ey {o:Option Nat} {x:Operand} {j d:TypeId} {ok:Bool} {ty:TypeId} {u:String} {m:Array Edge} {p:Option (Nat × Bool)} {e:Env} {b:Value->Heap->Prop} {c r:Value}
  (g:e.get x=.v c) (s:∀ w:World,(Instr.typeAssert c j d ok).run P w=.ok r w) (q:b r h):Raw P ⟨o,.typeAssert x j d ok,ty,u,m,p⟩ e h b:=by
 refine J3 (v:=r) ?_ ?_ q
 ·intro y i;simp only[Op.operands,List.mem_toArray,List.mem_cons,List.not_mem_nil,or_false]at i;subst i;exact⟨c,g⟩
 intro z t w;have a:=t x (by simp[Op.operands]);rw[g]at a;injection a with a
 simp only[execOp,<-a];simp only[Sem.run_bind,s,Result.andThen_ok,Sem.run_pure]
theorem fI {s:Option Nat} {g:BinOp} {t u:TypeId} {x y:Operand} {ty:TypeId} {D:String} {q:Array Edge} {z:Option (Nat × Bool)} {e:Env} {i:Value->Heap->Prop} {a b r:Value}
  (j:e.get x=.v a) (m:e.get y=.v b) (A:∀ w:World,(eqGuard g t x y a b).run P w=.ok () w) (B:∀ w:World,(Go.binOp g t a b).run P w=.ok r w) (C:i r h):Raw P ⟨s,.binOp g t x y u,ty,D,q,z⟩ e h i:=by
 refine J3 (v:=r) ?_ ?_ C
 ·intro F o;simp only[Op.operands,List.mem_toArray,List.mem_cons,List.not_mem_nil,or_false]at o;rcases o with rfl|rfl
  ·exact⟨a,j⟩
  exact⟨b,m⟩
 intro G p w;have c:=p x (by simp[Op.operands]);have d:=p y (by simp[Op.operands]);rw[j]at c;rw[m]at d;injection c with c
 injection d with d
 simp only[execOp,<-c,<-d];simp only[Sem.run_bind,A,B,Result.andThen_ok,Sem.run_pure]
theorem jI {b off:Nat} {cs:Array Value} {t:TypeId} {fz:Nat × Nat}:rd (h.set b (.cells cs t fz)) b off=cs[off]?:=by simp[rd,Heap.set]
theorem kq {b c off:Nat} {o:Obj} (a:b≠c):rd (h.set c o) b off=rd h b off:=by simp[rd,Heap.set,a]
def ez:Nat->List (Int × Value)->List MapEntry
 | _,[]=>[]
 | n,(k,v)::r=>⟨.int .i64 k,v,n⟩::ez (n+1) r
def mV (l:List (Int × Value)):Obj:=.map (ez 0 l).toArray l.length
def iP (k:Int):List (Int × Value)->Nat->Option (Nat × Value)
 | [],_=>none
 | (j,v)::r,i=>if k=j then some (i,v)else iP k r (i+1)
theorem me (k:Int):∀(l:List (Int × Value)) (n i:Nat),Instr.findNow (.int .i64) (.int .i64 k) (ez n l) i=some (iP k l i)
 | [],n,i=>rfl
 | (j,v)::r,n,i=>by
  rw[ez,Instr.findNow,iP];by_cases h:k=j
  ·subst h;simp[Instr.sameNow]
  have:(k==j)=false:=by simp[h]
  simp[Instr.sameNow,this,h,me k r]
theorem oR (k:Int) (v:Value):∀(l:List (Int × Value)) (n:Nat),ez n (l++[(k,v)])=ez n l++[⟨.int .i64 k,v,n+l.length⟩]
 | [],n=>rfl
 | (j,x)::r,n=>by
  simp only[List.cons_append,ez,oR k v r,List.length_cons];rw[show n+1+r.length=n+(r.length+1)by omega]
theorem uo {h:Heap} {w:World} (c:∀ b o,h b=some o->w.heap[b]? = some o):h w.heap.size=none:=by
 cases a:h w.heap.size with
 | none=>rfl
 | some o=>have:=dX (c _ _ a);omega
theorem set_set (h:Heap) (b:Nat) (o a:Obj):(h.set b o).set b a=h.set b a:=by
 funext c;simp only[Heap.set];split<;>rfl
theorem run_checkKey {P:Program} {a:TypeId} (b:∀ w:World,(underlying a).run P w=.ok (.int .i64) w) (n:Int) (q:Bool) (w:World):(Instr.checkKey q 10000 a (.int .i64 n)).run P w=.ok () w:=by
 have g:∀ k,(Instr.checkKey q (k+1) a (.int .i64 n)).run P w=.ok () w:=by
  intro k;simp only[Instr.checkKey,Sem.run_bind,b,Result.andThen_ok];rfl
 exact g 9999
variable {P:Program} {h:Heap} {e:Env} {Kr:Value->Heap->Prop} {dst:Option Nat} {ty t kt et:TypeId} {pos:String} {af:Array Edge} {g:Option (Nat × Bool)} {m k x:Operand} {b:Nat} {n:Int} {l:List (Int × Value)} {v:Value}
theorem Lx (c:∀ b,h b=none->Kr (.map (some b)) (h.set b (mV []))):Raw P ⟨dst,.makeMap t none,ty,pos,af,g⟩ e h Kr:=by
 rw[ki];unfold vM;refine⟨λy d=>by simp[Op.operands]at d,λj i w a=>?_⟩;refine⟨.map (some w.heap.size),_,_,.inl ?_,cK.push a _,c _ (uo a)⟩;simp only[execOp,Instr.makeMap,Option.map_none,Sem.run_bind,run_newObj,Sem.run_pure,Result.andThen_ok];rfl
theorem Im (u:e.get m=.v (.map (some b))) (s:e.get k=.v (.int .i64 n)) (A:e.get x=.v v)
  (J:∀ w:World,(underlying t).run P w=.ok (.map kt et) w) (p:∀ w:World,(underlying kt).run P w=.ok (.int .i64) w) (M:iP n l 0=none)
  (L:Kr undef (h.set b (mV (l++[(n,v)])))):Raw P ⟨dst,.insert t m k x,ty,pos,af,g⟩ e (h.set b (mV l)) Kr:=by
 rw[ki];unfold vM;refine⟨?_,λQ j w y=>?_⟩
 ·intro N B;simp only[Op.operands,List.mem_toArray,List.mem_cons,List.not_mem_nil,or_false]at B;rcases B with rfl|rfl|rfl
  ·exact⟨_,u⟩
  ·exact⟨_,s⟩
  exact⟨_,A⟩
 have a:=j m (by simp[Op.operands]);have c:=j k (by simp[Op.operands]);have d:=j x (by simp[Op.operands]);rw[u]at a;rw[s]at c;rw[A]at d;injection a with a
 injection c with c
 injection d with d
 have q:(h.set b (mV l)) b=some (mV l):=by simp[Heap.set]
 have z:=y _ _ q;have C:=cK.EN y q (mV (l++[(n,v)])) (w':={w with heap:=w.heap.setIfInBounds b (mV (l++[(n,v)]))}) rfl ⟨rfl,rfl,rfl⟩;rw[set_set]at C;refine⟨undef,_,_,.inr ⟨?_,rfl⟩,C,L⟩;have D:∀ w:World,(Instr.checkKey false 10000 kt (.int .i64 n)).run P w=.ok () w:=by
  exact λw=>run_checkKey p n _ w
 have F:∀ w:World,(Instr.findKey kt (.int .i64 n) (ez 0 l)).run P w=.ok none w:=by
  intro w;simp only[Instr.findKey,Sem.run_bind,p,Result.andThen_ok,me,M,Sem.run_pure]
 have G:(getObj b).run P w=.ok (.map (ez 0 l).toArray l.length) w:=by
  have i:w.heap[b]? = some (.map (ez 0 l).toArray l.length):=z;simp[getObj,Sem.run,i]
 have H:∀ o,(setObj b o).run P w=.ok () {w with heap:=w.heap.setIfInBounds b o }:=by
  intro o;have i:w.heap[b]? = some (.map (ez 0 l).toArray l.length):=z;simp[setObj,Sem.run,i]
 have I:mV (l++[(n,v)])=.map ((ez 0 l).toArray.push {key:=.int .i64 n,val:=v,born:=l.length}) (l.length+1):=by
  simp[mV,oR]
 simp only[execOp,<-a,<-c,<-d];simp only[Instr.mapUpdate,Sem.run_bind,J,Result.andThen_ok,G,D,F,H,Sem.run_pure,I]
theorem E1 (j:e.get m=.v (.map (some b))) (i:e.get k=.v (.int .i64 n))
  (B:∀ w:World,(underlying t).run P w=.ok (.map kt et) w) (d:∀ w:World,(underlying kt).run P w=.ok (.int .i64) w) {z:Value} (C:∀ w:World,(zeroValue et).run P w=.ok z w)
  (F:h b=some (mV l))
  (D:Kr (.tuple (match iP n l 0 with|some (_,v)=>#[v,.bool true]|none=>#[z,.bool false])) h):Raw P ⟨dst,.lookup t m k true,ty,pos,af,g⟩ e h Kr:=by
 rw[ki];unfold vM;refine⟨?_,λJ s w o=>?_⟩
 ·intro H p;simp only[Op.operands,List.mem_toArray,List.mem_cons,List.not_mem_nil,or_false]at p;rcases p with rfl|rfl
  ·exact⟨_,j⟩
  exact⟨_,i⟩
 have a:=s m (by simp[Op.operands]);have c:=s k (by simp[Op.operands]);rw[j]at a;rw[i]at c;injection a with a
 injection c with c
 refine⟨_,w,h,.inl ?_,cK.refl o,D⟩;have G:w.heap[b]? = some (.map (ez 0 l).toArray l.length):=o _ _ F;have u:∀(q:Bool) (w:World),(Instr.checkKey q 10000 kt (.int .i64 n)).run P w=.ok () w:=by
  exact run_checkKey d n
 have y:∀ w:World,(Instr.findKey kt (.int .i64 n) (ez 0 l)).run P w=.ok (iP n l 0) w:=by
  intro w;simp only[Instr.findKey,Sem.run_bind,d,Result.andThen_ok,me,Sem.run_pure]
 have A:(getObj b).run P w=.ok (.map (ez 0 l).toArray l.length) w:=by
  simp[getObj,Sem.run,G]
 simp only[execOp,<-a,<-c];simp only[Instr.lookup,Sem.run_bind,B,Result.andThen_ok,A,u,y,Sem.run_pure];cases iP n l 0 with
 | none=>simp only[Sem.run_bind,C,Result.andThen_ok,Sem.run_pure];rfl
 | some q=>obtain⟨I,H⟩:=q;simp only[Result.andThen_ok,Sem.run_pure];rfl
theorem Io (s:e.get m=.v (.map (some b))) (q:e.get k=.v (.int .i64 n))
  (a:∀ w:World,(underlying t).run P w=.ok (.map kt et) w) (c:∀ w:World,(underlying kt).run P w=.ok (.int .i64) w) {z:Value} (d:∀ w:World,(zeroValue et).run P w=.ok z w)
  (o:h b=some (mV l)) {i:Nat} (p:iP n l 0=some (i,v)) (j:Kr (.tuple #[v,.bool true]) h):Raw P ⟨dst,.lookup t m k true,ty,pos,af,g⟩ e h Kr:=E1 s q a c d o (by rw[p];exact j)
theorem Ip (q:e.get m=.v (.map (some b))) (p:e.get k=.v (.int .i64 n))
  (a:∀ w:World,(underlying t).run P w=.ok (.map kt et) w) (c:∀ w:World,(underlying kt).run P w=.ok (.int .i64) w) {z:Value} (d:∀ w:World,(zeroValue et).run P w=.ok z w)
  (j:h b=some (mV l)) (o:iP n l 0=none) (i:Kr (.tuple #[z,.bool false]) h):Raw P ⟨dst,.lookup t m k true,ty,pos,af,g⟩ e h Kr:=E1 q p a c d j (by rw[o];exact i)
theorem eR {p:Prop} {_:Decidable p} {t f:Prop} (a:p) (c:t):@Bool.rec (λ_=>Prop) f t (decide p):=aD (λ_=>c) (λh=>absurd a h)
theorem cx {p:Prop} {_:Decidable p} {t f:Prop} (c:¬p) (a:f):@Bool.rec (λ_=>Prop) f t (decide p):=aD (λh=>absurd h c) (λ_=>a)
theorem Ly {p:Prop} {_:Decidable p} {t f:Prop} (a:¬p) (c:t):@Bool.rec (λ_=>Prop) f t (!decide p):=aU (λ_=>c) (λh=>absurd h a)
theorem uq {p:Prop} {_:Decidable p} {t f:Prop} (c:p) (a:f):@Bool.rec (λ_=>Prop) f t (!decide p):=aU (λh=>absurd c h) (λ_=>a)
theorem bZ {p:Prop} {_:Decidable p} {t f:Prop} (c:t) (a:p:=by omega):@Bool.rec (λ_=>Prop) f t (decide p):=eR a c
theorem bD {p:Prop} {_:Decidable p} {t f:Prop} (a:f) (c:¬p:=by omega):@Bool.rec (λ_=>Prop) f t (decide p):=cx c a
theorem cU {p:Prop} {_:Decidable p} {t f:Prop} (c:t) (a:¬p:=by omega):@Bool.rec (λ_=>Prop) f t (!decide p):=Ly a c
theorem cy {p:Prop} {_:Decidable p} {t f:Prop} (a:f) (c:p:=by omega):@Bool.rec (λ_=>Prop) f t (!decide p):=uq c a
variable {P:Program}
theorem E2 {t u:TypeId} {f:Field} {F:Array (String × TypeId)} {j:IntKind} {info:TypeInfo} (c d:Int)
  (s:∀ w:World,(underlying t).run P w=.ok (.interface F) w) (y:∀ w:World,(typeInfo u).run P w=.ok info w) (z:info.comparable=true)
  (a:P.underlying u=some (.struct #[f])) (A:P.stoodInHeld u=false) (C:f.name≠ "_") (B:P.underlying f.type=some (.int j))
  (D:∀(x:Int) (w:World),(part f.type #[.int .i64 x] f.offset).run P w=.ok (.int .i64 x) w) (w:World) :
  (Go.binOp .eql t (.iface u (.agg #[.int .i64 c])) (.iface u (.agg #[.int .i64 d]))).run P w=.ok (.bool (c==d)) w:=by
 have i:P.fieldsOf u = #[f]:=by simp[Program.fieldsOf,a]
 have o:(Op.equalIn (9998+1) u (.agg #[.int .i64 c]) (.agg #[.int .i64 d])).run P w=.ok (c==d) w:=by
  rw[run_equalIn_struct w 9998 u _ _ (by rw[i];exact a) A,i];simp only[Op.eqFields,C,ne_eq,not_false_eq_true,if_true,Sem.run_bind,D,Result.andThen_ok];rw[show(9998:Nat)=9997+1 from rfl,run_equalIn_int w 9997 f.type .i64 j c d B];simp only[Result.andThen_ok];cases (c==d)<;>simp
 have p:(Op.equalIn (9999+1) t (.iface u (.agg #[.int .i64 c])) (.iface u (.agg #[.int .i64 d]))).run P w=.ok (c==d) w:=by
  rw[Op.equalIn];simp only[Sem.run_bind,s,Result.andThen_ok,ne_eq,not_true_eq_false,if_false,y,z,Bool.not_true,Bool.false_eq_true];exact o
 have q:(Op.equal t (.iface u (.agg #[.int .i64 c])) (.iface u (.agg #[.int .i64 d]))).run P w=.ok (c==d) w:=p;simp only[Go.binOp];simp[q]
theorem Dy {t u:TypeId} {f:Field} {D:Array (String × TypeId)} {info:TypeInfo} (c d:Bool)
  (q:∀ w:World,(underlying t).run P w=.ok (.interface D) w) (s:∀ w:World,(typeInfo u).run P w=.ok info w) (y:info.comparable=true)
  (a:P.underlying u=some (.struct #[f])) (z:P.stoodInHeld u=false) (B:f.name≠ "_") (A:P.underlying f.type=some .bool)
  (C:∀(x:Bool) (w:World),(part f.type #[.bool x] f.offset).run P w=.ok (.bool x) w) (w:World) :
  (Go.binOp .eql t (.iface u (.agg #[.bool c])) (.iface u (.agg #[.bool d]))).run P w=.ok (.bool (c==d)) w:=by
 have i:P.fieldsOf u = #[f]:=by simp[Program.fieldsOf,a]
 have j:(Op.equalIn (9998+1) u (.agg #[.bool c]) (.agg #[.bool d])).run P w=.ok (c==d) w:=by
  rw[run_equalIn_struct w 9998 u _ _ (by rw[i];exact a) z,i];simp only[Op.eqFields,B,ne_eq,not_false_eq_true,if_true,Sem.run_bind,C,Result.andThen_ok];rw[show(9998:Nat)=9997+1 from rfl,run_equalIn_bool' w 9997 f.type c d A];simp only[Result.andThen_ok];cases (c==d)<;>simp
 have o:(Op.equalIn (9999+1) t (.iface u (.agg #[.bool c])) (.iface u (.agg #[.bool d]))).run P w=.ok (c==d) w:=by
  rw[Op.equalIn];simp only[Sem.run_bind,q,Result.andThen_ok,ne_eq,not_true_eq_false,if_false,s,y,Bool.not_true,Bool.false_eq_true];exact j
 have p:(Op.equal t (.iface u (.agg #[.bool c])) (.iface u (.agg #[.bool d]))).run P w=.ok (c==d) w:=o;simp only[Go.binOp];simp[p]
theorem E3 {t e:TypeId} (a:Option Addr) (l c:Nat) (h:P.underlying t=some (.slice e)) (w:World):(Go.binOp .eql t (.slice a l c) (.slice none 0 0)).run P w=.ok (.bool a.isNone) w:=by
 simp only[Go.binOp];simp[run_equal_slice_nil w t e a l c h]
variable {h:Heap} {e:Env} {dst:Option Nat} {t u ty:TypeId} {x y:Operand} {pos:String} {af:Array Edge} {g:Option (Nat × Bool)}
theorem E4 {Kr:Value->Heap->Prop} {d:TypeId} {a:Option Addr} {l c:Nat} (o:e.get x=.v (.slice a l c)) (p:e.get y=.v (.slice none 0 0)) (j:P.underlying t=some (.slice d)) (i:Kr (.bool a.isNone) h) :
  Raw P ⟨dst,.binOp .eql t x y u,ty,pos,af,g⟩ e h Kr :=
 fI o p (λw=>by simp[eqGuard]) (E3 a l c j) i
theorem Iq {o:Oper} {Kr:Value->Prop} {v:Value} (i:∀ x∈o.op.operands,∃ v,e.get x=.v v)
  (d:∀ a:Operand->Value,(∀ x∈o.op.operands,e.get x=.v (a x))->∀ w:World,(execOp a o).run P w=.ok (.value v) w) (c:Kr v):Ic P o e Kr:=by
 rw[mY];unfold tS;exact⟨i,v,c,d⟩
variable {P:Program} {S:iK} {h:Heap} {e:Env} {dst:Option Nat} {t u el ty:TypeId} {x y:Operand} {pos:String} {af:Array Edge} {g:Option (Nat × Bool)}
theorem E5 (o:dg P S) {ti tu a:TI} {p:Option Addr} {k cap n:Nat} {kd:IntKind} {Kr:Value->Heap->Prop}
  (Cy:S.ty.find t=some ti) (Lh:ti.d=.sl el) (Li:S.ty.find u=some tu) (Lj:tu.d=.num kd) (q:S.ty.find el=some a) (Qq:e.get x=.v (.slice p k cap)) (Wh:e.get y=.v (.int .i64 n))
  (Yi:n*a.bytes<=2 ^ 44/\n<=2 ^ 44) (i:App a.bytes a.size a.zero el h p k cap n (List.replicate n a.zero).flatten Kr):Raw P ⟨dst,.call {callee:=.builtin .append,args:=#[x,y],argTypes:=#[t,u]},ty,pos,af,g⟩ e h Kr:=by
 rw[ki];unfold vM;refine⟨?_,λρ Wi w d=>?_⟩
 ·intro F B;simp only[Op.operands,Call.operands]at B;have:F=x\/F=y:=by simpa using B
  rcases this with rfl|rfl
  ·exact⟨_,Qq⟩
  exact⟨_,Wh⟩
 have z:=Wi x (by simp[Op.operands,Call.operands]);have A:=Wi y (by simp[Op.operands,Call.operands]);rw[Qq]at z;rw[Wh]at A;injection z with z
 injection A with A
 obtain⟨ab,J4,Dw,N⟩:=cQ o Cy w;rw[Lh]at N;cases ab<;>simp only[j9]at N<;>try cases N
 obtain⟨du,Wj,_,Q⟩:=cQ o Li w;rw[Lj]at Q;cases du<;>simp only[j9]at Q<;>try cases Q
 obtain⟨i0,hi0,Oe,Yj⟩:=jz o q w;have Wk:IntKind.i64.wrap (n:Int)=n:=wrap_i64 O O;have Y:∀ c:World,(asInt (.int .i64 (n:Int))).run P c=.ok (n:Int) c:=λ_=>rfl;have Of:¬((n:Int) < 0):=by omega
 have Og:¬((n:Int)*(a.bytes:Int) > 2 ^ 48):=by
  have:((n*a.bytes:Nat):Int)<=2 ^ 44:=by exact_mod_cast Yi.1
  rw[Int.natCast_mul]at this;omega
 have M:(execOp ρ ⟨dst,.call {callee:=.builtin .append,args:=#[x,y],argTypes:=#[t,u]},ty,pos,af,g⟩).run P w=((Builtin.append_ #[t,u] ty #[.slice p k cap,.int .i64 n]).run P w).andThen (λv j=>.ok (.value v) j):=by
  simp[execOp,resolve,invoke,builtin,<-z,<-A]
 have T:∀ c:World,(if n*a.size=0 then (pure #[]:Sem (Array Value))else do pure (Builtin.zeroCells (<-zeroValue el).cells n)).run P c=.ok (List.replicate n a.zero).flatten.toArray c:=by
  intro c;obtain⟨F,B,NW⟩:=iL o q c;have W:F.cells=a.zero.toArray:=by rw[<-NW]
  have Yk:a.zero.length=a.size:=o.zero _ _ q;split
  ·rename_i h0;have:(List.replicate n a.zero).flatten=[]:=List.eq_nil_of_length_eq_zero (by simp[Yk];simpa [Nat.mul_eq_zero]using h0);rw[this];simp
  simp only[Sem.run_bind,B,Result.andThen_ok,Sem.run_pure,lX,W]
 generalize hV:(List.replicate n a.zero).flatten=D at i T;rw[lS]at i;unfold xl at i;by_cases hle:k+n<=cap
 ·obtain⟨uf,i⟩:=i.1 hle;have Oh:∀ j,(match p with
    | some aa=>(storeCells (aa.add (k*a.size)) D).run P w=.ok () j
    | none=>j=w)->((Builtin.append_ #[t,u] ty #[.slice p k cap,.int .i64 n]).run P w).andThen (λv j=>.ok (.value v) j)=(.ok (.value (.slice p (k+n) cap)) j:Result Next):=by
   intro j d;simp only[Builtin.append_,List.getElem?_toArray,List.getElem?_cons_zero,List.getElem?_cons_succ,Sem.run_bind,J4,Result.andThen_ok,run_sizeOf o q,Wj,Sem.run_pure,if_true,Y,Wk,if_neg Of,hi0,Oe,if_neg Og,Int.toNat_natCast,if_pos hle,Bool.not_true,Bool.false_eq_true,if_false,T w];cases p with
   | none=>simp only at d;subst d;simp
   | some pa=>simp only at d;simp[d]
  rcases p with _|⟨b,X,_|sp⟩
  ·obtain⟨Rg,H⟩:=i;exact⟨_,w,h,.inl (by rw[M];exact Oh w rfl),cK.refl d,H⟩
  ·obtain⟨cs,Yl,hb,AV,H⟩:=i;obtain⟨j,V,Lm,NZ⟩:=fH (P:=P) b Yl D (X+k*a.size) 0 w cs (d _ _ hb) (by simpa using AV) uf;refine⟨_,j,_,.inl (M.trans (Oh j ?_)),cK.EN d hb _ (by simpa using Lm) NZ,H⟩;simp only[js];exact V
  exact i.elim
 obtain⟨X3,N0,C,L,i⟩:=i.2 O;obtain⟨ae,I,J,Nq⟩:=jz o q w;have Ri:=ue (need:=k+n) (cap:=cap) O;have EP:Builtin.nextslicecap (k+n) cap*a.bytes<=2 ^ 48:=by
  have G:=Nat.mul_le_mul_right a.bytes Ri;rw[Nat.mul_assoc]at G;omega
 have ER:∀ c:World,c.heap=w.heap->(Builtin.firstCells a.size k (.slice p k cap)).run P c=.ok C.toArray c:=by
  intro c V;rcases p with _|⟨b,X,_|sp⟩
  ·rw[L.2];rfl
  ·obtain⟨hl,hc⟩:=m3 _ _ _ L;simp only[Builtin.firstCells,loadCells];have:=run_loadCells (P:=P) (w:=c) C b X 0 #[] (λad v hj=>by
    have:=nX d (hc ad v hj);simp only[World.cell?,V]at this ⊢;simpa using this)
   rw[hl]at this;simpa using this
  exact L.elim
 obtain⟨s,Ln,Lo⟩:∃ s,k+n<=s/\(choose (.appendCap (k+n) cap el)).run P w=.ok s {w with drawn:=w.drawn+1}:=by
  refine⟨_,?_,by simp[Question.forced];rfl⟩;simp only[Question.cut];omega
 have Lq:¬(((k+n:Nat):Int) > IntKind.i64.max):=by
  have:(IntKind.i64.max:Int)=9223372036854775807:=by decide
  rw[this];omega
 refine⟨.slice (some ⟨w.heap.size,0,none⟩) (k+n) s,{w with drawn:=w.drawn+1,heap:=w.heap.push (.cells (C++D++(List.replicate (s-(k+n)) a.zero).flatten).toArray el)},_,.inl ?_,?_,i _ s (uo d) Ln⟩
 ·rw[M];simp only[Builtin.append_,List.getElem?_toArray,List.getElem?_cons_zero,List.getElem?_cons_succ,Sem.run_bind,J4,Result.andThen_ok,run_sizeOf o q,Wj,Sem.run_pure,if_true,Y,Wk,if_neg Of,hi0,Oe,if_neg Og,Int.toNat_natCast,if_neg hle,Bool.not_true,Bool.false_eq_true,if_false,I,J];rw[if_neg (by rintro⟨G,_⟩;exact Lq G)];simp only[Sem.run_bind,Sem.run_pure,Result.andThen_ok,I,J];rw[if_neg O];simp only[Sem.run_bind,Sem.run_pure,Result.andThen_ok,Lo,I,J,run_askRoom];obtain⟨i2,Lr,_,_⟩:=jz o q {w with drawn:=w.drawn+1};simp only[Lr,Result.andThen_ok];rw[ER {w with drawn:=w.drawn+1} rfl];simp only[Result.andThen_ok];rw[T {w with drawn:=w.drawn+1}];obtain⟨z',Ls,W⟩:=iL o q {w with drawn:=w.drawn+1};have ES:z'.cells=a.zero.toArray:=by rw[<-W]
  simp only[Result.andThen_ok,Ls,lX,ES,Go.newRow,Sem.run_bind,run_newObj,Sem.run_pure];simp
 have:=cK.push d (.cells (C++D++(List.replicate (s-(k+n)) a.zero).flatten).toArray el);exact⟨this.view,this.aJ,this.tG,this.size,this.fz,rfl,rfl,rfl⟩
theorem A3 (F:dg P S) {M C:TI} {b off c D a q:Nat} {p:Option Addr} {vs cs:List Value} {B:TypeId} {Kr:Value->Heap->Prop}
  (Cy:S.ty.find t=some M) (Lh:M.d=.sl el) (Ym:S.ty.find el=some C) (H:e.get x=.v (.slice (some ⟨b,off,none⟩) c D)) (I:e.get y=.v (.slice p a q))
  (hr:(p=none/\vs=[])\/∃ d o,p=some ⟨d,o,none⟩/\dQ h d o (Nat.min a c*C.size)=some vs) (G:h b=some (.cells cs.toArray B (0,0))) (hl:off+vs.length<=cs.length) (T:dD vs=true)
  (hk:Kr (.int .i64 (Nat.min a c:Nat)) (h.set b (.cells (dU cs off vs).toArray B (0,0)))):Raw P ⟨dst,.call {callee:=.builtin .copy,args:=#[x,y],argTypes:=#[t,u]},ty,pos,af,g⟩ e h Kr:=by
 rw[ki];unfold vM;refine⟨?_,λρ L w A=>?_⟩
 ·intro N J;simp only[Op.operands,Call.operands]at J;have:N=x\/N=y:=by simpa using J
  rcases this with rfl|rfl
  ·exact⟨_,H⟩
  exact⟨_,I⟩
 have i:=L x (by simp[Op.operands,Call.operands]);have j:=L y (by simp[Op.operands,Call.operands]);rw[H]at i;rw[I]at j;injection i with i
 injection j with j
 obtain⟨Q,W,Dw,z⟩:=cQ F Cy w;rw[Lh]at z;cases Q<;>simp only[j9]at z<;>try cases z
 have xw:(execOp ρ ⟨dst,.call {callee:=.builtin .copy,args:=#[x,y],argTypes:=#[t,u]},ty,pos,af,g⟩).run P w=((Builtin.copy_ #[t,u] ty #[.slice (some ⟨b,off,none⟩) c D,.slice p a q]).run P w).andThen (λv s=>.ok (.value v) s):=by
  simp[execOp,resolve,invoke,builtin,<-i,<-j]
 have hlen:(Builtin.lenOf (.slice p a q)).run P w=.ok a w:=rfl;have X:(Builtin.firstCells C.size (Nat.min a c) (.slice p a q)).run P w=.ok vs.toArray w:=by
  rcases hr with ⟨rfl,rfl⟩|⟨d,o,rfl,AU⟩
  ·rfl
  obtain⟨hl2,V⟩:=m3 _ _ _ AU;simp only[Builtin.firstCells,loadCells];have:=run_loadCells (P:=P) (w:=w) vs d o 0 #[] (λaa v Y=>by
   have:=nX A (V aa v Y);simpa using this)
  rw[hl2]at this;simpa using this
 obtain⟨s,Rh,Lm,NZ⟩:=fH (P:=P) b B vs off 0 w cs.toArray (A _ _ G) (by simpa using hl) T;refine⟨_,s,_,.inl ?_,cK.EN A G _ (by simpa using Lm) NZ,hk⟩;rw[xw];simp only[Builtin.copy_,List.getElem?_toArray,List.getElem?_cons_zero,List.getElem?_cons_succ,Sem.run_bind,W,Result.andThen_ok,hlen,run_sizeOf F Ym,X];have:(storeCells ⟨b,off,none⟩ vs).run P w=.ok () s:=Rh;simp[this,goInt]
def Oi (P:Program) (S:iK) (res:List ResultVar) (R:Value->Heap->Prop) (g:FuncId) (c:List Value) (u:FrameMode) (e:Env) (h:Heap):Prop :=
 ∀ w:World,(∀ b o,h b=some o->w.heap[b]? = some o)->CallsD P g c.toArray u w λd i p=>(∃ v,d=.returned v)/\settle i=.returning/\∃ a,cK h w a p/\fy S e a res λj=>iZ (λv=>R v a) j
structure A5 (P:Program) (S:iK) (res:List ResultVar) (R:Value->Heap->Prop) (g:FuncId) (cv:List Value) (u:FrameMode) (e:Env) (h:Heap):Prop where
 run:Oi P S res R g cv u e h
theorem Rel.defer {D:List Deferred} {n:Nat} {h0 h:Heap} {c w:World} {i:Nat->Nat} {e:Env} {a:Act} (r:Rel D n h0 c i e h a w) (d:Deferred):Rel (d::D) n h0 c i e h {a with defers:=d::a.defers} w where
 size:=r.size
 tV:=by show d::a.defers=_;rw[r.tV]
 slot:=r.slot
 box:=r.box
 inj:=r.inj
 mv:=r.mv
theorem wq {P:Program} {S:iK} (s:dg P S) {D:List Deferred} {n:Nat} {h0:Heap} {B:World} {F:Fs} {c:Array Oper} (z:∀ o∈c.toList,∀ q,o.dst=some q->q < n) {K:Env->Heap->Prop} {Q:Exit->Act->World->Prop} (rest:List Nat)
  (A:∀ e' h' p d w',K e' h'->Rel D n h0 B p e' h' d w'->wpOps P c Q rest d w') :
  ∀(l:List Oper) (k:Nat) (e:Env) (h:Heap) (i:Nat->Nat) (a:Act) (w:World),(∀ j,j < l.length->l[j]? = c[k+j]?)->Rel D n h0 B i e h a w ->
   yJ P S F c.toList K (λ_ _=>False) l e h->wpOps P c Q (List.range' k l.length++rest) a w
 | [],k,e,h,i,a,w,_,r,hx=>A _ _ i _ _ hx r
 | o::l,k,e,h,i,a,w,hl,r,hx=>by
  have h0:c[k]? = some o:=by simpa using (hl 0 Z).symm
  rw[List.length_cons,List.range'_succ,List.cons_append,wpOps_cons];refine m5 s h0 r (z o (by rw[<-Array.getElem?_toList]at h0;exact List.mem_of_getElem? h0)) hx (λe' h' p d w' G H=>?_) (λ_ _ _ _ C=>C.elim);exact wq s z rest A l (k+1) e' h' p d w' (λj I=>by have:=hl (j+1) (by simpa using I);simpa [Nat.add_assoc,Nat.add_comm 1 j]using this) H G
def J5 (P:Program) (S:iK) (F:Fs) (res:List ResultVar) (R:Value->Heap->Prop) (A T:Code) (D:Nat) (g:FuncId) (z:List Operand) (L pre:List Oper) (J:Option Nat) (C:Operand) (B:List Operand) (args:List Value) (h:Heap):Prop :=
 den P S F A (λd j H=>match d with
  | .normal=>bp j z λa=>yJ P S F L (λc I=>match c.get C with
   | .v G=>bp c B λq=>mZ P S false G q I (λM _ i=>den P S F T (λd o p=>match d with
     | .normal=>A5 P S res R g a .returning o p
     | .ret=>A5 P S res R g a .returning o p
     | _=>False) (c.put J M none) i) (λs i=>A5 P S res R g a (.panicking s) c i)
   | _=>False) (λ_ _=>False) pre (j.put (some D) (.v (.func (.func g) #[] ⟨a⟩)) none) H
  | _=>False) (iN args) h
theorem pz {P:Program} {S:iK} (j:dg P S) {fn:Func} {R:Value->Heap->Prop} {g:FuncId} {c:List Value} {u:FrameMode} {e:Env} {h h0:Heap} {n:Nat} {d w:World} {q:Nat->Nat} {a:Act} {D:List Deferred}
  (L:u≠.run) (G:Nat.ble S.lo g=true) (o:S.lt g=true) (r:Rel D n h0 d q e h a w) (M:A5 P S fn.results.toList R g c u e h) :
  Leaves P fn a.tmps (λi w'=>∃ h',cK h0 d h' w'/\match i with
   | .returned v=>R v h'
   | .panicked _=>False
   | .outgrown=>False) [{target:=.fn (.func g) ⟨c⟩,args:=#[]}] u w:=by
 obtain⟨Q,F,B,H⟩:=j.fn g (Nat.le_of_ble_eq_true G) (iK.v7 o).1 (iK.v7 o).2;refine leaves_cons (f:=g) (args:=c.toArray) L ?_ ?_
 ·simp only[invoke,callFunc,run_program,Sem.run_bind,Sem.run_pure,Result.andThen_ok,F,H,Bool.false_eq_true,if_false,B];simp
 refine(M.run w r.mv.view).mono ?_;rintro i T w' ⟨⟨v,rfl⟩,J,h',m,I⟩;simp only[J];have p:Rel D n h0 d q e h' a w':=by
  have:=r.put m none (λ_ C=>by cases C) (s:=.v undef) (v:=undef) rfl;simpa [Env.put,Act.put]using this
 obtain⟨v,z,A⟩:=kF (R:=λN h'=>match N with | .ret v=>R v h' | .jj _=>False) j p I;exact⟨v,z,h',p.mv,A⟩
theorem A6 {P:Program} {S:iK} (j:dg P S) (G:Fs) {f:FuncId} {fn:Func} {A T:Code} {i1 i2 d:Nat} {g:FuncId} {J J6:Array Operand} {t1 t2:TypeId} {p1 p2:String} {Wl Wm:Array Edge} {q:Array Oper} {pre:List Oper} {last:Oper} {cf:Operand} {ts:Array TypeId} {args:List Value} {k:Nat} {h:Heap} {R:Value->Heap->Prop}
  (hf:P.funcs[f]? = some fn)
  (hb:fn.body=some (A.seq ((Code.region i1 #[⟨some d,.makeFunc (.func g) #[] J,t1,p1,Wl,none⟩,⟨none,.defer ⟨.value (.tmp d),#[],#[]⟩,t2,p2,Wm,none⟩] false).seq ((Code.region i2 q false).seq T))))
  (uf:gH G fn k=true) (hk:args.length=k) (I:q.toList=pre++[last]) (hg:last.guard=none) (N7:last.op=.call {callee:=.value cf,args:=J6,argTypes:=ts})
  (V:Nat.ble S.lo g=true) (Q:S.lt g=true)
  (i:J5 P S G fn.results.toList R A T d g J.toList q.toList pre last.dst cf J6.toList args h):bI P f args h R:=by
 subst hk;simp only[gH,hb,Code.iM,Code.gV,Bool.and_eq_true]at uf;obtain⟨⟨X,Wn,N3,Wo,Wp⟩,Yn,_,_,Rr⟩:=uf;have X:=Nat.le_of_ble_eq_true X;have J4:d < fn.ntmps:=o9 N3 _ (List.mem_cons_self) d rfl;intro w hv;have key:=calls_of_wp_defers (P:=P) (f:=f) (args:=args.toArray) (w:=w) (R:=λz w'=>∃ p,cK h w p w'/\match z with
   | .returned v=>R v p
   | .panicked _=>False
   | .outgrown=>False) hf hb ?_
 ·refine key.mono ?_;rintro z w' ⟨p,m,hh⟩;refine⟨p,m,?_⟩;cases z<;>exact hh
 refine wp_seq (wp_mono (n7 j G A _ _ _ _ _ _ Wn (mb j A Wn Yn) i (rP X hv)) ?_);intro M H F c;cases M with
 | exit ab=>obtain⟨_,_,_,i,_⟩:=c;exact i.elim
 | ret=>obtain⟨_,_,_,i,_⟩:=c;exact i.elim
 | panic aa=>obtain⟨_,_,i,_⟩:=c;exact i.elim
 | goto l=>exact c.elim
 | outgrown=>exact c.elim
 | normal =>
  obtain⟨Rm,e1,h1,Y,r1⟩:=c;obtain⟨o,Y,l1,l2⟩:=jA _ _ Y;have ur:=m4 r1 l1 l2;refine wp_seq (wp_region ?_);have r2:=r1.put (cK.refl r1.mv.view) (some d) (λd' Ir=>by cases Ir;exact J4) (s:=.v (.func (.func g) #[] ⟨o⟩)) (v:=.func (.func g) #[] ⟨o⟩) rfl;show wpOps P _ _ [0,1] H F;rw[wpOps_cons];unfold wpOp;simp only[List.getElem?_toArray,List.getElem?_cons_zero,Region.wanted,if_true];refine .inl ?_;have Yo:(execOp H.eval ⟨some d,.makeFunc (.func g) #[] J,t1,p1,Wl,none⟩).run P F=.ok (.value (.func (.func g) #[] ⟨o⟩)) F:=by
   simp[execOp,ur,Instr.makeFunc,Sem.run_bind]
  unfold Oper.wp;rw[Yo];simp only[Oper.upon];rw[wpOps_cons];unfold wpOp;simp only[List.getElem?_toArray,List.getElem?_cons_succ,List.getElem?_cons_zero,Region.wanted,if_true];refine .inl ?_;have Yp:(H.put (some d) (.func (.func g) #[] ⟨o⟩)).eval (.tmp d)=.func (.func g) #[] ⟨o⟩:=r2.eval (by simp[Env.get,Env.put]);have Yq:(execOp (H.put (some d) (.func (.func g) #[] ⟨o⟩)).eval ⟨none,.defer ⟨.value (.tmp d),#[],#[]⟩,t2,p2,Wm,none⟩).run P F=.ok (.defer ⟨.fn (.func g) ⟨o⟩,#[]⟩) F:=by
   simp[execOp,resolve,Yp,Deferred.ofValue,Sem.run_bind,Sem.run_pure,Result.andThen_ok]
  unfold Oper.wp;rw[Yq];simp only[Oper.upon,wpOps,Act.put];have r3:=r2.defer ⟨.fn (.func g) ⟨o⟩,#[]⟩;refine wp_seq (wp_region ?_);have hsz:q.size=pre.length+1:=by rw[<-Array.length_toList,I];simp
  have Oj:q[pre.length]? = some last:=by rw[<-Array.getElem?_toList,I];simp
  have hr:List.range q.size=List.range' 0 pre.length++[pre.length]:=by
   rw[hsz,List.range_eq_range',List.range'_append_1 (s:=0) (m:=pre.length) (n:=1) |>.symm];simp
  rw[hr];refine wq j (o9 Wo) _ ?_ pre 0 _ _ Rm _ _ (λad hj=>by rw[Nat.zero_add,<-Array.getElem?_toList,I,List.getElem?_append_left hj]) r3 Y;intro e2 h2 β2 a2 w2 a C;rw[wpOps_cons];unfold wpOp;simp only[Oj,Region.wanted,hg,if_true];refine .inl ?_;split at a
  case h_2=>exact a.elim
  rename_i fv Yr;obtain⟨vs,a,m1,m2⟩:=jA _ _ a;have hargs:=m4 C m1 m2;unfold mZ at a;split at a
  ·rename_i g' first L X4;split at a
   ·rename_i Rs Ok;obtain⟨fn',Rt,Lz,LA⟩:=j.fn g' (Nat.le_of_ble_eq_true Rs) (iK.v7 Ok).1 (iK.v7 Ok).2;rw[bJ]at a;have xw:(execOp a2.eval last).run P w2=.ok (.enter g' (first++vs.toArray++L)) w2:=by
     simp only[execOp,N7,resolve,C.eval Yr,Deferred.ofValue,hargs,Sem.run_bind,Sem.run_pure,Result.andThen_ok,invoke,callFunc,run_program,Rt,LA,Bool.false_eq_true,if_false,Lz]
    have Ru:(first.toList++vs++L.toList).toArray=first++vs.toArray++L:=by
     apply Array.ext';simp
    have a:=a.run;unfold tQ at a;unfold Oper.wp;rw[xw];simp only[Oper.upon];rw[<-Ru];refine(a w2 C.mv.view).mono ?_;rintro z w3 ⟨h3,m,W⟩;cases z with
    | outgrown=>exact W.elim
    | returned v =>
     have D:=C.put m last.dst (o9 Wo last (by rw[I];simp)) (s:=.v v) (v:=v) rfl;refine wp_mono (n7 j G T _ _ _ _ _ _ Wp (mb j T Wp Rr) W D) ?_;intro M a5 w5 c;cases M with
     | normal=>obtain⟨Rv,e',p,N,B⟩:=c;show Leaves _ _ _ _ a5.defers _ _;rw[B.tV];exact pz j Z V Q B N
     | ret=>obtain⟨Rv,e',p,N,B⟩:=c;show Leaves _ _ _ _ a5.defers _ _;rw[B.tV];exact pz j Z V Q B N
     | exit ab=>obtain⟨_,_,_,i,_⟩:=c;exact i.elim
     | panic aa=>obtain⟨_,_,i,_⟩:=c;exact i.elim
     | goto l=>exact c.elim
     | outgrown=>exact c.elim
    | panicked aa =>
     have D:=C.put m none (λ_ hd=>by cases hd) (s:=.v undef) (v:=undef) rfl;simp only[Env.put,Act.put]at D;show Leaves _ _ _ _ a2.defers _ _;rw[D.tV];exact pz j Z V Q D W
   exact a.elim
  exact a.elim
theorem y8 {P:Program} {S:iK} (z:dg P S) (F:Fs) {f:FuncId} {fn:Func} {A T:Code} {i1 i2 d:Nat} {g:FuncId} {c i:Array Operand} {t1 t2:TypeId} {p1 p2:String} {q s:Array Edge} {a:Array Oper} {last:Oper} {o:Operand} {ts:Array TypeId} {args:List Value} {k:Nat} {h:Heap} {R:Value->Heap->Prop} (m:Nat)
  (C:P.funcs[f]? = some fn) (X:gH F fn k=true) (M:args.length=k)
  (B:fn.body=some (A.seq ((Code.region i1 #[⟨some d,.makeFunc (.func g) #[] c,t1,p1,q,none⟩,⟨none,.defer ⟨.value (.tmp d),#[],#[]⟩,t2,p2,s,none⟩] false).seq ((Code.region i2 a false).seq T))))
  (W:a.size=m+1) (p:a[m]? = some last) (D:last.guard=none) (Q:last.op=.call {callee:=.value o,args:=i,argTypes:=ts})
  (I:Nat.ble S.lo g=true) (H:S.lt g=true)
  (Y:J5 P S F fn.results.toList R A T d g c.toList a.toList (a.toList.take m) last.dst o i.toList args h):bI P f args h R:=by
 refine A6 z F C B X M ?_ D Q I H Y;rw[<-Array.getElem?_toList]at p;have N:a.toList.length=m+1:=by rw[Array.length_toList,W]
 obtain⟨V,G⟩:=List.getElem?_eq_some_iff.1 p;rw[<-G];apply List.ext_getElem?
 intro j;by_cases J:j < m
 ·rw[List.getElem?_append_left (by simp;omega),List.getElem?_take_of_lt J]
 rw[List.getElem?_append_right (by simp;omega)];by_cases L:j=m
 ·subst L;simp only[List.length_take,N];rw[show min j (j+1)=j by omega];simp[V]
 rw[List.getElem?_eq_none O,List.getElem?_eq_none];simp;omega
def Found (v:Value) (u:FrameMode):Prop:=(u=.returning/\v=.nilIface)\/u=.panicking [{v,recovered:=false}]
theorem CC {P:Program} {S:iK} (M:dg P S) (F:Fs) {g:FuncId} {a:Func} {i d:Nat} {t0:TypeId} {I:String} {af:Array Edge} {J:Array TypeId} {T:Code} {q:List Value} {k:Nat} {h:Heap} {res:List ResultVar} {R:Value->Heap->Prop} {e:Env} {u:FrameMode} {v:Value}
  (hu:Found v u) (hf:P.funcs[g]? = some a) (N:a.body=some ((Code.region i #[⟨some d,.call ⟨.builtin .recover,#[],J⟩,t0,I,af,none⟩] false).seq T)) (hr:a.results = #[])
  (W:gH F a k=true) (hk:q.length=k)
  (A:den P S F T (λC _ h'=>match C with
   | .normal=>fy S e h' res λvs=>iZ (λv=>R v h') vs
   | .ret=>fy S e h' res λvs=>iZ (λv=>R v h') vs
   | _=>False) ((iN q).put (some d) (.v v) none) h):A5 P S res R g q u e h:=by
 subst hk;simp only[gH,N,Code.iM,Code.gV,Bool.and_eq_true]at W;obtain⟨⟨H,N3,V⟩,_,Rr⟩:=W;have H:=Nat.le_of_ble_eq_true H;have J4:d < a.ntmps:=o9 N3 _ (List.mem_cons_self) d rfl;refine⟨λw hv=>callsD_of_wpS (c:=(Code.region i #[⟨some d,.call ⟨.builtin .recover,#[],J⟩,t0,I,af,none⟩] false).seq T) hf N λp L G=>?_⟩;have r0:=rP (fn:=a) H hv;have r1:=r0.put (cK.refl r0.mv.view) (some d) (λd' Ir=>by cases Ir;exact J4) (s:=.v v) (v:=v) rfl;apply wpS_seq
 apply wpS_region
 show wpOpsS P _ _ [0] _ _ _;have run:∀(ρ:Operand->Value),(execOp ρ ⟨some d,.call ⟨.builtin .recover,#[],J⟩,t0,I,af,none⟩).run P w=.ok .recover w:=by
  intro ρ;simp[execOp,resolve,invoke,builtin]
 have fin:∀ B j,settle j=.returning->B = {p with mode:=j }::L->T.wpS P (bodyPostS P a p L λen j w'=>(∃ v,en=.returned v)/\settle j=.returning/\∃ h',cK h w h' w'/\fy S e h' res λvs=>iZ (λv=>R v h') vs) (({tmps:=q.toArray++Array.replicate (a.ntmps-q.toArray.size) undef,defers:=[]}:Act).put (some d) v) B w:=by
  intro B j Y Q;refine wpS_of_wp (wp_mono (n7 M F T _ _ _ _ _ _ V (mb M T V Rr) A r1) ?_);intro C a5 w5 o;have X:(results a a5.tmps).run P w5=.ok (.tuple #[]) w5:=by
   unfold results;rw[hr];simp[Sem.run_bind,Sem.run_pure]
  cases C with
  | normal=>obtain⟨Rv,e',h',D,z⟩:=o;exact⟨z.tV,j,Q,_,X,⟨_,rfl⟩,Y,h',z.mv,D⟩
  | ret=>obtain⟨Rv,e',h',D,z⟩:=o;exact⟨z.tV,j,Q,_,X,⟨_,rfl⟩,Y,h',z.mv,D⟩
  | exit i=>obtain⟨_,_,_,A,_⟩:=o;exact A.elim
  | panic c=>obtain⟨_,_,A,_⟩:=o;exact A.elim
  | goto l=>exact o.elim
  | outgrown=>exact o.elim
 have Ys:p = {p with mode:=p.mode}:=rfl;simp only[wpOpsS,List.getElem?_toArray,List.getElem?_cons_zero,Region.wanted,if_true,run];rcases hu with ⟨rfl,rfl⟩|rfl
 ·simp only[recoverD,G];exact fin _ .returning rfl (by rw[<-G])
 simp only[recoverD,G];exact fin _ (.panicking [{v,recovered:=true}]) rfl rfl
end Go.Vc
namespace Go.Proofs
open Go.Vc Go.Proofs.Tryz
def Tryz.sig:Go.Vc.iK:=⟨.node (.node (.node (.node (.node (.node (.node (.node (.leaf) 1 ⟨1,8,[.nilFunc],false,.dm⟩ (.leaf)) 2 ⟨1,8,[.int .i64 0],false,.num .i64⟩ (.node (.leaf) 3 ⟨1,8,[.int .i64 0],false,.num .i64⟩ (.leaf))) 4 ⟨1,1,[.bool false],false,.Rb⟩ (.node (.node (.leaf) 5 ⟨1,1,[.int .u8 0],false,.num .u8⟩ (.leaf)) 6 ⟨1,1,[.int .u8 0],false,.num .u8⟩ (.node (.leaf) 7 ⟨4,24,[.int .i64 0,.int .i64 0,.bool false,.int .u8 0],true,.str [(0,2),(1,3),(2,4),(3,6)]⟩ (.leaf)))) 8 ⟨4,24,[.int .i64 0,.int .i64 0,.bool false,.int .u8 0],true,.str [(0,2),(1,3),(2,4),(3,6)]⟩ (.node (.node (.node (.leaf) 9 ⟨1,16,[.string ⟨#[]⟩],false,.NR⟩ (.leaf)) 10 ⟨1,16,[.string ⟨#[]⟩],false,.NR⟩ (.node (.leaf) 11 ⟨1,16,[.string ⟨#[]⟩],false,.NR⟩ (.leaf))) 12 ⟨1,8,[.int .u64 0],false,.num .u64⟩ (.node (.node (.leaf) 13 ⟨2,24,[.string ⟨#[]⟩,.int .u64 0],true,.str [(0,9),(1,12)]⟩ (.leaf)) 14 ⟨2,24,[.string ⟨#[]⟩,.int .u64 0],true,.str [(0,9),(1,12)]⟩ (.leaf)))) 15 ⟨1,8,[.pointer none],false,.ptr 229⟩ (.node (.node (.node (.node (.leaf) 16 ⟨1,8,[.pointer none],false,.ptr 232⟩ (.leaf)) 17 ⟨1,8,[.pointer none],false,.ptr 240⟩ (.node (.leaf) 18 ⟨1,8,[.pointer none],true,.str [(0,17)]⟩ (.leaf))) 19 ⟨1,8,[.pointer none],true,.str [(0,17)]⟩ (.node (.node (.leaf) 20 ⟨1,16,[.nilIface],false,.NS⟩ (.leaf)) 21 ⟨1,4,[.int .i32 0],false,.num .i32⟩ (.leaf))) 22 ⟨1,24,[.slice none 0 0],false,.sl 5⟩ (.node (.node (.node (.leaf) 23 ⟨1,24,[.slice none 0 0],false,.sl 139⟩ (.leaf)) 24 ⟨1,24,[.slice none 0 0],false,.sl 70⟩ (.node (.leaf) 25 ⟨2,48,[.slice none 0 0,.slice none 0 0],true,.str [(0,23),(1,24)]⟩ (.leaf))) 26 ⟨2,48,[.slice none 0 0,.slice none 0 0],true,.str [(0,23),(1,24)]⟩ (.node (.node (.leaf) 27 ⟨1,24,[.slice none 0 0],false,.sl 59⟩ (.leaf)) 28 ⟨1,24,[.slice none 0 0],false,.sl 51⟩ (.leaf))))) 29 ⟨1,24,[.slice none 0 0],false,.sl 3⟩ (.node (.node (.node (.node (.node (.leaf) 30 ⟨2,16,[.bool false,.int .i64 0],true,.str [(0,4),(1,3)]⟩ (.leaf)) 31 ⟨2,16,[.bool false,.int .i64 0],true,.str [(0,4),(1,3)]⟩ (.node (.leaf) 32 ⟨7,104,[.slice none 0 0,.slice none 0 0,.slice none 0 0,.int .i64 0,.int .i64 0,.bool false,.int .i64 0],true,.str [(0,27),(1,28),(2,29),(3,3),(4,3),(5,31)]⟩ (.leaf))) 33 ⟨7,104,[.slice none 0 0,.slice none 0 0,.slice none 0 0,.int .i64 0,.int .i64 0,.bool false,.int .i64 0],true,.str [(0,27),(1,28),(2,29),(3,3),(4,3),(5,31)]⟩ (.node (.node (.leaf) 35 ⟨1,8,[.nilFunc],false,.dm⟩ (.leaf)) 36 ⟨1,8,[.nilFunc],false,.dm⟩ (.leaf))) 37 ⟨1,8,[.nilFunc],false,.dm⟩ (.node (.node (.node (.leaf) 38 ⟨1,8,[.nilFunc],false,.dm⟩ (.leaf)) 39 ⟨1,8,[.nilFunc],false,.dm⟩ (.node (.leaf) 40 ⟨1,8,[.nilFunc],false,.dm⟩ (.leaf))) 41 ⟨1,8,[.pointer none],false,.ptr 64⟩ (.node (.node (.leaf) 42 ⟨1,8,[.nilFunc],false,.dm⟩ (.leaf)) 43 ⟨1,8,[.nilFunc],false,.dm⟩ (.leaf)))) 44 ⟨1,8,[.nilFunc],false,.dm⟩ (.node (.node (.node (.node (.leaf) 45 ⟨1,8,[.nilFunc],false,.dm⟩ (.leaf)) 46 ⟨1,8,[.nilFunc],false,.dm⟩ (.node (.leaf) 47 ⟨1,8,[.nilFunc],false,.dm⟩ (.leaf))) 48 ⟨1,8,[.nilFunc],false,.dm⟩ (.node (.node (.leaf) 49 ⟨1,24,[.slice none 0 0],false,.sl 31⟩ (.leaf)) 50 ⟨4,64,[.int .i64 0,.int .i64 0,.slice none 0 0,.slice none 0 0],true,.str [(0,3),(1,3),(2,49),(3,49)]⟩ (.leaf))) 51 ⟨4,64,[.int .i64 0,.int .i64 0,.slice none 0 0,.slice none 0 0],true,.str [(0,3),(1,3),(2,49),(3,49)]⟩ (.node (.node (.node (.leaf) 52 ⟨1,8,[.nilFunc],false,.dm⟩ (.leaf)) 53 ⟨1,8,[.nilFunc],false,.dm⟩ (.node (.leaf) 54 ⟨1,8,[.nilFunc],false,.dm⟩ (.leaf))) 55 ⟨1,8,[.nilFunc],false,.dm⟩ (.node (.node (.leaf) 56 ⟨1,8,[.nilFunc],false,.dm⟩ (.leaf)) 57 ⟨1,8,[.nilFunc],false,.dm⟩ (.leaf)))))) 58 ⟨2,32,[.int .i64 0,.slice none 0 0],true,.str [(0,3),(1,49)]⟩ (.node (.node (.node (.node (.node (.node (.leaf) 59 ⟨2,32,[.int .i64 0,.slice none 0 0],true,.str [(0,3),(1,49)]⟩ (.leaf)) 60 ⟨1,8,[.nilFunc],false,.dm⟩ (.node (.leaf) 61 ⟨1,8,[.nilFunc],false,.dm⟩ (.leaf))) 62 ⟨1,8,[.nilFunc],false,.dm⟩ (.node (.node (.leaf) 63 ⟨2,32,[.slice none 0 0,.int .i64 0],true,.str [(0,22),(1,3)]⟩ (.leaf)) 64 ⟨2,32,[.slice none 0 0,.int .i64 0],true,.str [(0,22),(1,3)]⟩ (.node (.leaf) 65 ⟨1,8,[.nilFunc],false,.dm⟩ (.leaf)))) 66 ⟨1,24,[.slice none 0 0],false,.sl 78⟩ (.node (.node (.node (.leaf) 67 ⟨1,24,[.slice none 0 0],false,.sl 73⟩ (.leaf)) 68 ⟨1,24,[.slice none 0 0],false,.sl 119⟩ (.node (.leaf) 69 ⟨8,128,[.int .i64 0,.int .i64 0,.slice none 0 0,.int .i64 0,.int .i64 0,.slice none 0 0,.slice none 0 0,.slice none 0 0],true,.str [(0,3),(1,3),(2,29),(3,3),(4,3),(5,66),(6,67),(7,68)]⟩ (.leaf))) 70 ⟨8,128,[.int .i64 0,.int .i64 0,.slice none 0 0,.int .i64 0,.int .i64 0,.slice none 0 0,.slice none 0 0,.slice none 0 0],true,.str [(0,3),(1,3),(2,29),(3,3),(4,3),(5,66),(6,67),(7,68)]⟩ (.node (.node (.leaf) 71 ⟨1,8,[.nilFunc],false,.dm⟩ (.leaf)) 72 ⟨3,56,[.bool false,.slice none 0 0,.slice none 0 0],true,.str [(0,4),(1,29),(2,29)]⟩ (.leaf)))) 73 ⟨3,56,[.bool false,.slice none 0 0,.slice none 0 0],true,.str [(0,4),(1,29),(2,29)]⟩ (.node (.node (.node (.node (.leaf) 74 ⟨1,8,[.nilFunc],false,.dm⟩ (.leaf)) 75 ⟨1,8,[.nilFunc],false,.dm⟩ (.node (.leaf) 76 ⟨1,8,[.nilFunc],false,.dm⟩ (.leaf))) 77 ⟨3,24,[.int .i64 0,.int .i64 0,.int .i64 0],true,.str [(0,3),(1,3),(2,3)]⟩ (.node (.node (.leaf) 78 ⟨3,24,[.int .i64 0,.int .i64 0,.int .i64 0],true,.str [(0,3),(1,3),(2,3)]⟩ (.leaf)) 79 ⟨1,8,[.nilFunc],false,.dm⟩ (.leaf))) 80 ⟨1,8,[.nilFunc],false,.dm⟩ (.node (.node (.node (.leaf) 81 ⟨1,8,[.nilFunc],false,.dm⟩ (.leaf)) 82 ⟨1,8,[.int .i64 0],true,.str [(0,3)]⟩ (.node (.leaf) 83 ⟨1,8,[.int .i64 0],true,.str [(0,3)]⟩ (.leaf))) 85 ⟨1,8,[.nilFunc],false,.dm⟩ (.node (.node (.leaf) 86 ⟨1,8,[.pointer none],false,.ptr 33⟩ (.leaf)) 87 ⟨1,8,[.nilFunc],false,.dm⟩ (.leaf))))) 88 ⟨1,8,[.pointer none],false,.ptr 90⟩ (.node (.node (.node (.node (.node (.leaf) 89 ⟨11,168,[.slice none 0 0,.slice none 0 0,.slice none 0 0,.slice none 0 0,.slice none 0 0,.int .i64 0,.int .i64 0,.bool false,.int .i64 0,.bool false,.int .i64 0],true,.str [(0,26),(2,33),(9,4),(10,3)]⟩ (.leaf)) 90 ⟨11,168,[.slice none 0 0,.slice none 0 0,.slice none 0 0,.slice none 0 0,.slice none 0 0,.int .i64 0,.int .i64 0,.bool false,.int .i64 0,.bool false,.int .i64 0],true,.str [(0,26),(2,33),(9,4),(10,3)]⟩ (.node (.leaf) 91 ⟨1,8,[.nilFunc],false,.dm⟩ (.leaf))) 92 ⟨1,8,[.nilFunc],false,.dm⟩ (.node (.node (.leaf) 93 ⟨1,8,[.nilFunc],false,.dm⟩ (.leaf)) 94 ⟨1,8,[.nilFunc],false,.dm⟩ (.leaf))) 95 ⟨1,8,[.nilFunc],false,.dm⟩ (.node (.node (.node (.leaf) 96 ⟨1,8,[.nilFunc],false,.dm⟩ (.leaf)) 97 ⟨1,8,[.map none],false,.dm⟩ (.node (.leaf) 98 ⟨1,8,[.nilFunc],false,.dm⟩ (.leaf))) 99 ⟨1,8,[.nilFunc],false,.dm⟩ (.node (.node (.leaf) 100 ⟨1,8,[.nilFunc],false,.dm⟩ (.leaf)) 101 ⟨1,8,[.nilFunc],false,.dm⟩ (.leaf)))) 102 ⟨1,8,[.nilFunc],false,.dm⟩ (.node (.node (.node (.node (.leaf) 103 ⟨1,8,[.nilFunc],false,.dm⟩ (.leaf)) 104 ⟨1,8,[.nilFunc],false,.dm⟩ (.node (.leaf) 105 ⟨1,8,[.nilFunc],false,.dm⟩ (.leaf))) 106 ⟨1,8,[.nilFunc],false,.dm⟩ (.node (.node (.leaf) 107 ⟨1,8,[.nilFunc],false,.dm⟩ (.leaf)) 108 ⟨1,8,[.nilFunc],false,.dm⟩ (.leaf))) 109 ⟨1,8,[.nilFunc],false,.dm⟩ (.node (.node (.node (.leaf) 110 ⟨1,8,[.nilFunc],false,.dm⟩ (.leaf)) 111 ⟨1,8,[.nilFunc],false,.dm⟩ (.node (.leaf) 112 ⟨1,8,[.nilFunc],false,.dm⟩ (.leaf))) 113 ⟨1,8,[.nilFunc],false,.dm⟩ (.node (.node (.leaf) 115 ⟨1,8,[.nilFunc],false,.dm⟩ (.leaf)) 116 ⟨1,8,[.nilFunc],false,.dm⟩ (.leaf))))))) 117 ⟨1,8,[.nilFunc],false,.dm⟩ (.node (.node (.node (.node (.node (.node (.node (.leaf) 118 ⟨4,32,[.int .i64 0,.int .i64 0,.int .i64 0,.int .i64 0],true,.str [(0,3),(1,3),(2,3),(3,3)]⟩ (.leaf)) 119 ⟨4,32,[.int .i64 0,.int .i64 0,.int .i64 0,.int .i64 0],true,.str [(0,3),(1,3),(2,3),(3,3)]⟩ (.node (.leaf) 120 ⟨1,8,[.nilFunc],false,.dm⟩ (.leaf))) 121 ⟨1,8,[.nilFunc],false,.dm⟩ (.node (.node (.leaf) 122 ⟨1,8,[.nilFunc],false,.dm⟩ (.leaf)) 123 ⟨1,8,[.nilFunc],false,.dm⟩ (.node (.leaf) 124 ⟨1,8,[.nilFunc],false,.dm⟩ (.leaf)))) 125 ⟨1,8,[.pointer none],false,.ptr 161⟩ (.node (.node (.node (.leaf) 126 ⟨1,8,[.nilFunc],false,.dm⟩ (.leaf)) 127 ⟨1,8,[.pointer none],false,.ptr 51⟩ (.node (.leaf) 128 ⟨1,8,[.nilFunc],false,.dm⟩ (.leaf))) 129 ⟨1,8,[.nilFunc],false,.dm⟩ (.node (.node (.leaf) 130 ⟨1,8,[.nilFunc],false,.dm⟩ (.leaf)) 131 ⟨1,8,[.nilFunc],false,.dm⟩ (.leaf)))) 132 ⟨1,8,[.nilFunc],false,.dm⟩ (.node (.node (.node (.node (.leaf) 133 ⟨1,8,[.nilFunc],false,.dm⟩ (.leaf)) 134 ⟨1,8,[.nilFunc],false,.dm⟩ (.node (.leaf) 135 ⟨1,8,[.nilFunc],false,.dm⟩ (.leaf))) 136 ⟨1,8,[.nilFunc],false,.dm⟩ (.node (.node (.leaf) 137 ⟨1,8,[.nilFunc],false,.dm⟩ (.leaf)) 138 ⟨2,32,[.int .i64 0,.slice none 0 0],true,.str [(0,3),(1,29)]⟩ (.leaf))) 139 ⟨2,32,[.int .i64 0,.slice none 0 0],true,.str [(0,3),(1,29)]⟩ (.node (.node (.node (.leaf) 140 ⟨1,8,[.nilFunc],false,.dm⟩ (.leaf)) 141 ⟨1,8,[.int .i64 0],false,.num .i64⟩ (.node (.leaf) 142 ⟨2,16,[.int .i64 0,.int .i64 0],true,.str [(0,141),(1,141)]⟩ (.leaf))) 143 ⟨2,16,[.int .i64 0,.int .i64 0],true,.str [(0,141),(1,141)]⟩ (.node (.node (.leaf) 144 ⟨1,8,[.nilFunc],false,.dm⟩ (.leaf)) 146 ⟨1,8,[.nilFunc],false,.dm⟩ (.leaf))))) 147 ⟨1,24,[.slice none 0 0],false,.sl 105⟩ (.node (.node (.node (.node (.node (.leaf) 148 ⟨1,8,[.nilFunc],false,.dm⟩ (.leaf)) 150 ⟨1,8,[.nilFunc],false,.dm⟩ (.node (.leaf) 151 ⟨1,8,[.nilFunc],false,.dm⟩ (.leaf))) 152 ⟨1,8,[.nilFunc],false,.dm⟩ (.node (.node (.leaf) 153 ⟨1,8,[.nilFunc],false,.dm⟩ (.leaf)) 155 ⟨1,8,[.nilFunc],false,.dm⟩ (.leaf))) 156 ⟨1,8,[.nilFunc],false,.dm⟩ (.node (.node (.node (.leaf) 157 ⟨1,8,[.nilFunc],false,.dm⟩ (.leaf)) 158 ⟨9,136,[.pointer none,.int .i64 0,.int .i64 0,.slice none 0 0,.int .i64 0,.int .i64 0,.slice none 0 0,.slice none 0 0,.slice none 0 0],true,.str [(0,127),(1,70)]⟩ (.node (.leaf) 159 ⟨9,136,[.pointer none,.int .i64 0,.int .i64 0,.slice none 0 0,.int .i64 0,.int .i64 0,.slice none 0 0,.slice none 0 0,.slice none 0 0],true,.str [(0,127),(1,70)]⟩ (.leaf))) 160 ⟨12,192,[.pointer none,.int .i64 0,.int .i64 0,.slice none 0 0,.int .i64 0,.int .i64 0,.slice none 0 0,.slice none 0 0,.slice none 0 0,.slice none 0 0,.slice none 0 0,.pointer none],true,.str [(0,159),(9,26),(11,86)]⟩ (.node (.node (.leaf) 161 ⟨12,192,[.pointer none,.int .i64 0,.int .i64 0,.slice none 0 0,.int .i64 0,.int .i64 0,.slice none 0 0,.slice none 0 0,.slice none 0 0,.slice none 0 0,.slice none 0 0,.pointer none],true,.str [(0,159),(9,26),(11,86)]⟩ (.leaf)) 162 ⟨1,8,[.nilFunc],false,.dm⟩ (.leaf)))) 163 ⟨1,8,[.nilFunc],false,.dm⟩ (.node (.node (.node (.node (.leaf) 165 ⟨1,8,[.nilFunc],false,.dm⟩ (.leaf)) 166 ⟨1,8,[.nilFunc],false,.dm⟩ (.node (.leaf) 167 ⟨1,8,[.nilFunc],false,.dm⟩ (.leaf))) 168 ⟨1,8,[.nilFunc],false,.dm⟩ (.node (.node (.leaf) 169 ⟨1,8,[.pointer none],false,.ptr 59⟩ (.leaf)) 170 ⟨1,8,[.nilFunc],false,.dm⟩ (.leaf))) 171 ⟨1,8,[.nilFunc],false,.dm⟩ (.node (.node (.node (.leaf) 172 ⟨1,8,[.nilFunc],false,.dm⟩ (.leaf)) 173 ⟨1,8,[.nilFunc],false,.dm⟩ (.node (.leaf) 174 ⟨1,16,[.nilIface],false,.NS⟩ (.leaf))) 175 ⟨1,16,[.nilIface],false,.NS⟩ (.node (.node (.leaf) 176 ⟨1,8,[.nilFunc],false,.dm⟩ (.leaf)) 177 ⟨0,0,[],true,.str []⟩ (.leaf)))))) 178 ⟨0,0,[],true,.str []⟩ (.node (.node (.node (.node (.node (.node (.leaf) 179 ⟨1,1,[.bool false],true,.str [(0,4)]⟩ (.leaf)) 180 ⟨1,1,[.bool false],true,.str [(0,4)]⟩ (.node (.leaf) 181 ⟨1,8,[.int .i64 0],true,.str [(0,3)]⟩ (.leaf))) 182 ⟨1,8,[.int .i64 0],true,.str [(0,3)]⟩ (.node (.node (.leaf) 183 ⟨1,8,[.nilFunc],false,.dm⟩ (.leaf)) 184 ⟨1,8,[.nilFunc],false,.dm⟩ (.node (.leaf) 185 ⟨1,8,[.nilFunc],false,.dm⟩ (.leaf)))) 186 ⟨1,8,[.nilFunc],false,.dm⟩ (.node (.node (.node (.leaf) 187 ⟨1,8,[.nilFunc],false,.dm⟩ (.leaf)) 188 ⟨1,8,[.nilFunc],false,.dm⟩ (.node (.leaf) 189 ⟨1,8,[.nilFunc],false,.dm⟩ (.leaf))) 190 ⟨1,8,[.nilFunc],false,.dm⟩ (.node (.node (.leaf) 191 ⟨1,24,[.slice none 0 0],false,.sl 193⟩ (.leaf)) 192 ⟨1,8,[.nilFunc],false,.dm⟩ (.leaf)))) 193 ⟨1,8,[.int .i64 0],false,.num .i64⟩ (.node (.node (.node (.node (.leaf) 194 ⟨1,8,[.nilFunc],false,.dm⟩ (.leaf)) 195 ⟨1,8,[.nilFunc],false,.dm⟩ (.node (.leaf) 196 ⟨1,1,[.int .i8 0],false,.num .i8⟩ (.leaf))) 197 ⟨1,1,[.int .i8 0],false,.num .i8⟩ (.node (.node (.leaf) 198 ⟨5,40,[.nilFunc,.nilFunc,.nilFunc,.nilFunc,.nilFunc],true,.arr 5 194⟩ (.leaf)) 199 ⟨1,8,[.nilFunc],false,.dm⟩ (.leaf))) 200 ⟨1,8,[.nilFunc],false,.dm⟩ (.node (.node (.node (.leaf) 201 ⟨1,8,[.nilFunc],false,.dm⟩ (.leaf)) 202 ⟨1,8,[.nilFunc],false,.dm⟩ (.node (.leaf) 203 ⟨1,8,[.nilFunc],false,.dm⟩ (.leaf))) 204 ⟨1,8,[.pointer none],false,.ptr 31⟩ (.node (.node (.leaf) 205 ⟨1,8,[.nilFunc],false,.dm⟩ (.leaf)) 206 ⟨1,8,[.nilFunc],false,.dm⟩ (.leaf))))) 207 ⟨1,8,[.nilFunc],false,.dm⟩ (.node (.node (.node (.node (.node (.leaf) 208 ⟨0,0,[],true,.str []⟩ (.leaf)) 209 ⟨0,0,[],true,.str []⟩ (.node (.leaf) 210 ⟨1,8,[.nilFunc],false,.dm⟩ (.leaf))) 212 ⟨1,8,[.nilFunc],false,.dm⟩ (.node (.node (.leaf) 213 ⟨1,8,[.nilFunc],false,.dm⟩ (.leaf)) 214 ⟨1,8,[.int .u64 0],false,.num .u64⟩ (.leaf))) 216 ⟨1,8,[.nilFunc],false,.dm⟩ (.node (.node (.node (.leaf) 217 ⟨1,8,[.nilFunc],false,.dm⟩ (.leaf)) 218 ⟨1,8,[.nilFunc],false,.dm⟩ (.node (.leaf) 219 ⟨1,4,[.int .u32 0],false,.num .u32⟩ (.leaf))) 221 ⟨1,8,[.nilFunc],false,.dm⟩ (.node (.node (.leaf) 222 ⟨1,8,[.int .u64 0],false,.num .u64⟩ (.leaf)) 224 ⟨1,8,[.nilFunc],false,.dm⟩ (.leaf)))) 226 ⟨1,8,[.nilFunc],false,.dm⟩ (.node (.node (.node (.node (.leaf) 227 ⟨1,8,[.nilFunc],false,.dm⟩ (.leaf)) 228 ⟨4,40,[.pointer none,.pointer none,.pointer none,.string ⟨#[]⟩],true,.str [(0,17),(1,17),(2,17),(3,9)]⟩ (.node (.leaf) 229 ⟨4,40,[.pointer none,.pointer none,.pointer none,.string ⟨#[]⟩],true,.str [(0,17),(1,17),(2,17),(3,9)]⟩ (.leaf))) 230 ⟨0,0,[],true,.arr 0 16⟩ (.node (.node (.leaf) 233 ⟨1,1,[.int .u8 0],false,.num .u8⟩ (.leaf)) 234 ⟨1,1,[.int .u8 0],false,.num .u8⟩ (.leaf))) 235 ⟨1,8,[.nilFunc],false,.dm⟩ (.node (.node (.node (.leaf) 236 ⟨1,8,[.pointer none],false,.ptr 5⟩ (.leaf)) 237 ⟨1,4,[.int .i32 0],false,.num .i32⟩ (.node (.leaf) 238 ⟨1,4,[.int .i32 0],false,.num .i32⟩ (.leaf))) 239 ⟨11,48,[.int .u64 0,.int .u64 0,.int .u32 0,.int .u8 0,.int .u8 0,.int .u8 0,.int .u8 0,.nilFunc,.pointer none,.int .i32 0,.int .i32 0],true,.str [(0,12),(1,12),(2,219),(3,233),(4,5),(5,5),(6,234),(7,235),(8,236),(9,237),(10,238)]⟩ (.node (.node (.leaf) 240 ⟨11,48,[.int .u64 0,.int .u64 0,.int .u32 0,.int .u8 0,.int .u8 0,.int .u8 0,.int .u8 0,.nilFunc,.pointer none,.int .i32 0,.int .i32 0],true,.str [(0,12),(1,12),(2,219),(3,233),(4,5),(5,5),(6,234),(7,235),(8,236),(9,237),(10,238)]⟩ (.leaf)) 241 ⟨1,8,[.pointer none],false,.dm⟩ (.leaf))))))),3,204,0⟩
theorem U {p:Prop} (h:p:=by kernel_rfl):p:=h
theorem Tryz.aB:dg prog sig:=dg.mk' (by kernel_rfl) (by kernel_rfl) (by kernel_rfl) (by kernel_rfl)
def Tryz.F3:Fs:={L:=[3,4,5],LL:=[18,19,20,25,26,30,31,32,61,62,66,68,74,82,89,93],bX:=[(5,[0,1,2,3,4,5,6,7,8,9,10,11]),(6,[0,1,2,3,4,5]),(10,[0,1,2,3,4,6,5,7,8,9,10,11,12,15,16,13,14,17,18,19,20,23,21,22,24,25,26,27,29,31,28,30,32,33,34,35])]}
def Tryz.F5:Fs:={L:=[2,3,4]}
def Tryz.F6:Fs:={L:=[2,3,6,7]}
def Tryz.F7:Fs:={L:=[2,3,4]}
def Tryz.F8:Fs:={L:=[2,3],LL:=[50,52,64,79,81],bX:=[(7,[1,3,6,0,2,4,5,7,8,9,10,11,12,13,15,14,16,17,18,19,20,21]),(12,[1,3,6,0,2,4,5,7,8])]}
def Tryz.F9:Fs:={L:=[2,3]}
def Tryz.Yt:Fs:={bX:=[(6,[0,1,2,4,5,6,3,7,8])]}
def Tryz.Yu:Fs:={}
def Tryz.Yv:Fs:={bX:=[(7,[0,1,2,4,5,6,7,15,16,17,19,20,21,22,23,24,33,34,36,37,38,39,3,8,9,10,11,12,13,14,18,25,26,27,28,29,30,31,32,35,40,41,42,43,44,45])]}
def Tryz.Yw:Fs:={L:=[2,4,5]}
def Tryz.Yx:Fs:={L:=[3]}
def Tryz.Rw:Fs:={L:=[2,3,4,6]}
theorem Tryz.Ol:gH Rw Tryz.f17 2=true:=by kernel_rfl
def Tryz.Yy:Fs:={bX:=[(6,[0,1,2,3,5,6,7,8,4,9,10,11,12,13,14,15,17,18,19,20,16,21,22,23,24])]}
def Tryz.Yz:Fs:={bX:=[(6,[0,1,2,4,5,6,3,7,8])]}
def Tryz.YA:Fs:={L:=[1,2,3,6,34,64],LL:=[18,20,27],trees:=[(6,(.one 0 (.one 2 (.one 4 (.one 9 (.one 11 (.one 1 (.one 3 (.one 5 (.one 6 (.one 10 (.one 12 (.one 13 (.alt 7 (.alt 8 (.one 14 (.one 15 (.one 16 (.one 17 (.one 18 (.one 19 (.one 20 .nil))))))) (.alt 14 (.one 8 (.one 15 (.one 16 (.one 17 (.one 18 (.one 19 (.one 20 .nil))))))) .eJ)) (.alt 8 (.alt 7 (.one 14 (.one 15 (.one 16 (.one 17 (.one 18 (.one 19 (.one 20 .nil))))))) (.alt 14 (.alt 7 (.one 15 (.one 16 (.one 17 (.one 18 (.one 19 (.one 20 .nil)))))) (.alt 15 (.one 7 (.one 16 (.one 17 (.one 18 (.one 19 (.one 20 .nil)))))) .eJ)) .eJ)) (.alt 14 (.alt 7 (.one 8 (.one 15 (.one 16 (.one 17 (.one 18 (.one 19 (.one 20 .nil))))))) (.alt 8 (.alt 7 (.one 15 (.one 16 (.one 17 (.one 18 (.one 19 (.one 20 .nil)))))) (.alt 15 (.one 7 (.one 16 (.one 17 (.one 18 (.one 19 (.one 20 .nil)))))) .eJ)) .eJ)) .eJ))))))))))))))))]}
def Tryz.YB:Fs:={L:=[2,3,4,6],LL:=[8,9,22,24,26,37,39,44,64,65],bX:=[(1,[0,1,2,3,4,5]),(3,[0,2,4,1,3,5,6,7,8,9,10]),(5,[0,1,3,8,2,4,5,6,9,7,10,11,12]),(8,[0,1,2,3,4,5])],M:=[44]}
def Tryz.YC:Fs:={L:=[1],LL:=[45,47],bX:=[(8,[1,3,0,2,4,5,6,7])]}
def Tryz.YD:Fs:={}
def Tryz.YE:Fs:={L:=[2]}
def Tryz.YF:Fs:={L:=[3,4],LL:=[25,27,33,36,38],bX:=[(5,[0,2,1,3,4,5,6,7,8,11,13,9,10,12,14,15,16,17,18,19])]}
def Tryz.YG:Fs:={L:=[3,4],LL:=[8,10,16,18,20,29,32,34,42,48,54],bX:=[(1,[0,2,1,3,4,5,6,7,8,10,12,9,11,13,14,15,16,17,18,19,20,21,24,26,22,23,25,27,28,29,30,31,32,33,34,35,36,37,38,39,40,42,41,43,44,45,46,48,47,49,50,51])]}
def Tryz.YH:Fs:={}
def Tryz.YI:Fs:={L:=[1]}
def Tryz.YJ:Fs:={L:=[1,3,6]}
def Tryz.YK:Fs:={}
def Tryz.YL:Fs:={L:=[2,3]}
def Tryz.YM:Fs:={L:=[4]}
def Tryz.YN:Fs:={L:=[0]}
def Tryz.YO:Fs:={L:=[18]}
def Tryz.YP:Fs:={L:=[4,5,6,47]}
def Tryz.YQ:Fs:={L:=[3,4,5],LL:=[111,113,115],bX:=[(32,[0,1,2,4,6,3,5,7,8,9,10,11,12,13])]}
def Tryz.YR:Fs:={L:=[1,2],LL:=[8],trees:=[(3,(.one 1 (.alt 0 (.alt 2 (.alt 3 (.one 4 (.one 5 (.one 6 .nil))) (.alt 4 (.one 3 (.one 5 (.one 6 .nil))) .eJ)) (.alt 4 (.one 2 (.one 3 (.one 5 (.one 6 .nil)))) .eJ)) (.alt 4 (.one 0 (.one 2 (.one 3 (.one 5 (.one 6 .nil))))) .eJ))))]}
def Tryz.YS:Fs:={L:=[1,2,3,5,7,33,48],LL:=[9,12,14,16,26,28,30,45,46],bX:=[(1,[0,3,5,7,10,1,4,6,8,2,9,11]),(5,[0,2,4,1,3,5,6,7,8,9,10,11]),(10,[0,1,2,3,4,5,6,7])]}
def Tryz.YT:Fs:={L:=[2]}
def Tryz.YU:Fs:={L:=[3,9],LL:=[37,50,58,61],bX:=[(3,[0,1,2,4,5,6,3,7,8,9,10,11]),(4,[0,2,3,4,10,1,5,6,7,8,9]),(7,[1,2,3,0,4,5,6,7,9,10,8,11,12,13]),(11,[0,1,2,3,5,6,7,4,8,9,10,11,12,13,14])]}
def Tryz.LB:Fs:={L:=[3]}
theorem Tryz.Dz:gH LB Tryz.f44 2=true:=by kernel_rfl
def Tryz.YV:Fs:={bX:=[(5,[0,1,2,3,5,6,7,4,8,9,10,11,12]),(9,[0,1,2,4,5,6,7,9,10,11,12,3,8,13,14,15,16,17,18,19,20,22,23,24,25,26,21,27,28,29]),(12,[0,1,2,3,4,6,7,8,9,5,10,11,12,13,14,15,16,17])]}
def Tryz.YW:Fs:={}
def Tryz.YX:Fs:={L:=[2,3],LL:=[40,41,43,51,53,55,69,70,72],bX:=[(6,[2,4,0,1,3,5,6,7,8,9,10,12,14,16,11,13,15,17,18,19,20,21]),(11,[2,4,0,1,3,5,6,7,8])]}
def Tryz.YY:Fs:={L:=[1,5,6]}
def Tryz.YZ:Fs:={}
def Tryz.Y0:Fs:={bX:=[(3,[0,1,2,3,4,7,8,9,10,11,5,6,12,13])]}
def Tryz.Y1:Fs:={L:=[3,5]}
def Tryz.Y2:Fs:={}
def Tryz.Y3:Fs:={L:=[2,3],LL:=[62,66,67],bX:=[(14,[0,1,2,3,4,5,6,7,8,9,10,11])]}
def Tryz.Y4:Fs:={L:=[3,4,8,9,12]}
def Tryz.Y5:Fs:={L:=[2,3,6]}
def Tryz.Y6:Fs:={L:=[1,4,6]}
def Tryz.Y7:Fs:={L:=[2]}
def Tryz.Y8:Fs:={L:=[2]}
def Tryz.Y9:Fs:={}
def Tryz.Za:Fs:={L:=[3],LL:=[7,11,15,24,29,37,43,49],bX:=[(1,[1,2,0,3,4,5,7,9,6,10,8,11,12,13,14,15,16,17,18,21,23,19,20,24,22,25,26,27,28,29,30,31,32,33,34,35,36,37,38,39,40,41,42,43,44,45,46,47,48])]}
def Tryz.Zb:Fs:={L:=[2]}
def Tryz.Zc:Fs:={}
def Tryz.Zd:Fs:={L:=[6]}
def Tryz.Ze:Fs:={}
def Tryz.Zf:Fs:={}
def Tryz.Zg:Fs:={}
def Tryz.Zh:Fs:={}
def Tryz.Zi:Fs:={}
def Tryz.Zj:Fs:={}
def Tryz.Zk:Fs:={}
def Tryz.Rx:Fs:={L:=[6]}
theorem Tryz.Om:gH Rx Tryz.f71 2=true:=by kernel_rfl
def Tryz.Zl:Fs:={L:=[1]}
def Tryz.Zm:Fs:={}
def Tryz.Zn:Fs:={L:=[3]}
def Tryz.Zo:Fs:={L:=[3],LL:=[19,23,27],bX:=[(3,[0,1,2,3,4,5,8,9,6,7,10,11,12,13,14,15])]}
def Tryz.Zp:Fs:={}
def Tryz.Zq:Fs:={L:=[6]}
def Tryz.Zr:Fs:={}
def Tryz.Zs:Fs:={L:=[1]}
def Tryz.Zt:Fs:={L:=[6]}
def Tryz.Zu:Fs:={L:=[4,5,6,42]}
def Tryz.Zv:Fs:={L:=[2,3,7,10,53],LL:=[31,32,34],bX:=[(8,[0,1,2,5,7,3,4,6,8,9,10,11,12])]}
def Tryz.Zw:Fs:={L:=[3,5]}
def Tryz.Zx:Fs:={L:=[2,3,4,18],LL:=[16],bX:=[(5,[0,1,2,3,4,5,6])]}
def Tryz.Zy:Fs:={}
def Tryz.Zz:Fs:={L:=[13]}
def Tryz.ZA:Fs:={L:=[3,6,7,27],LL:=[15,18,25],bX:=[(2,[0,3,5,1,2,4,6,7,8,9]),(3,[0,1,2,3,4,5,6])]}
def Tryz.ZB:Fs:={}
def Tryz.ZC:Fs:={}
def Tryz.ZD:Fs:={L:=[1,2],LL:=[4,6,8,11],bX:=[(1,[0,2,4,7,1,3,5,8,6,9,10,11])]}
def Tryz.Ry:Fs:={L:=[3]}
theorem Tryz.On:gH Ry Tryz.f94 2=true:=by kernel_rfl
def Tryz.ZE:Fs:={L:=[2],LL:=[19,27],bX:=[(1,[0,1,2,4,5,6,3,7,8,9,10,11]),(2,[0,1,3,4,5,11,2,10,6,7,8,9,12,13,14])]}
def Tryz.Qs:Fs:={L:=[2,199],LL:=[84,99,122],bX:=[(0,[0,1,2,3,8,9,10,11,12,4,5,6,7,13,14,15]),(2,[0,1,2,3,4,6,7,8,9,16,5,10,11,12,13,14,15,17]),(13,[0,1,2,3,4,9,10,5,6,7,8,11,12,13]),(15,[0,1,2,3,8,10,11,9,4,5,6,7,12,13,14]),(21,[0,2,3,4,6,7,8,1,5,9,10,11,12,13,14,15]),(26,[0,1,2,4,5,6,3,7,8,9]),(28,[0,1,2,4,5,6,3,7,8,9])],trees:=[(39,(.one 0 (.one 1 (.one 2 (.one 4 (.one 5 (.one 6 (.one 11 (.one 12 (.one 13 (.alt 3 (.alt 7 (.one 8 (.one 9 (.one 10 (.one 14 (.one 15 (.one 16 (.one 17 (.one 18 (.one 19 .nil))))))))) (.alt 14 (.one 15 (.one 7 (.one 8 (.one 9 (.one 10 (.one 16 (.one 17 (.one 18 (.one 19 .nil))))))))) .eJ)) (.alt 7 (.one 8 (.one 9 (.one 10 (.alt 3 (.one 14 (.one 15 (.one 16 (.one 17 (.one 18 (.one 19 .nil)))))) (.alt 14 (.one 15 (.alt 3 (.one 16 (.one 17 (.one 18 (.one 19 .nil)))) (.alt 16 (.one 3 (.one 17 (.one 18 (.one 19 .nil)))) .eJ))) .eJ))))) (.alt 14 (.one 15 (.alt 3 (.one 7 (.one 8 (.one 9 (.one 10 (.one 16 (.one 17 (.one 18 (.one 19 .nil)))))))) (.alt 7 (.one 8 (.one 9 (.one 10 (.alt 3 (.one 16 (.one 17 (.one 18 (.one 19 .nil)))) (.alt 16 (.one 3 (.one 17 (.one 18 (.one 19 .nil)))) .eJ))))) .eJ))) .eJ)))))))))))))],M:=[134]}
theorem Tryz.LC:gH Qs Tryz.f96 1=true:=by kernel_rfl
def Tryz.ZF:Fs:={L:=[2]}
def Tryz.Rz:Fs:={}
theorem Tryz.Oo:gH Rz Tryz.f98 3=true:=by kernel_rfl
def Tryz.ZG:Fs:={L:=[2]}
def Tryz.RA:Fs:={L:=[2]}
def Tryz.E6:Fs:={L:=[3,125],LL:=[17,64,86],bX:=[(3,[0,1,2,4,3,5,6]),(10,[0,1,2,3,5,6,4,7,8]),(12,[0,1,2,4,5,6,8,9,3,7,10,11]),(15,[0,1,2,3,5,6,7,10,4,8,9,11,12,13,14,15]),(16,[0,1,2,3,4,6,7,8,10,11,5,9,12,13,14,15,16,17,18])],trees:=[(6,(.one 1 (.one 2 (.one 3 (.one 5 (.one 6 (.one 7 (.one 10 (.alt 0 (.alt 4 (.one 8 (.one 9 (.one 11 (.one 12 (.one 13 (.one 14 .nil)))))) (.alt 8 (.one 9 (.one 11 (.one 4 (.one 12 (.one 13 (.one 14 .nil)))))) .eJ)) (.alt 4 (.alt 0 (.one 8 (.one 9 (.one 11 (.one 12 (.one 13 (.one 14 .nil)))))) (.alt 8 (.one 9 (.one 11 (.one 12 (.one 0 (.one 13 (.one 14 .nil)))))) .eJ)) (.alt 8 (.one 9 (.one 11 (.alt 0 (.one 4 (.one 12 (.one 13 (.one 14 .nil)))) (.alt 4 (.one 12 (.one 0 (.one 13 (.one 14 .nil)))) .eJ)))) .eJ)))))))))))],M:=[141]}
theorem Tryz.CD:gH E6 Tryz.f101 2=true:=by kernel_rfl
def Tryz.RB:Fs:={L:=[3]}
def Tryz.RC:Fs:={}
def Tryz.RD:Fs:={bX:=[(1,[0,1,2,3,5,6,7,8,4,9,10,11,12,13])]}
def Tryz.RE:Fs:={L:=[3]}
def Tryz.RF:Fs:={L:=[3,5,82],LL:=[31,42],bX:=[(8,[0,1,2,3,5,6,4,7,8,9])],trees:=[(10,(.one 0 (.one 1 (.one 2 (.one 4 (.one 6 (.one 5 (.alt 3 (.one 7 (.one 8 (.one 9 .nil))) (.alt 7 (.one 3 (.one 8 (.one 9 .nil))) .eJ)))))))))],M:=[138,139]}
def Tryz.LD:Fs:={L:=[3]}
theorem Tryz.J7:gH LD Tryz.f107 2=true:=by kernel_rfl
def Tryz.RG:Fs:={}
def Tryz.RH:Fs:={L:=[2]}
def Tryz.RI:Fs:={L:=[5]}
def Tryz.RJ:Fs:={L:=[2,3],LL:=[56,58],bX:=[(9,[0,2,4,1,3,5,6,7,8])]}
def Tryz.RK:Fs:={L:=[5]}
def Tryz.RL:Fs:={L:=[3,4,5]}
def Tryz.RM:Fs:={L:=[2,3],LL:=[28,33],bX:=[(6,[0,2,5,7,1,3,6,8,4,9,10])]}
def Tryz.RN:Fs:={}
def Tryz.RO:Fs:={}
def Tryz.RP:Fs:={L:=[1,11]}
def Tryz.RQ:Fs:={L:=[5,6,7]}
def Tryz.RR:Fs:={L:=[5]}
def Tryz.RS:Fs:={bX:=[(6,[0,1,2,4,5,6,3,7,8])]}
def Tryz.RT:Fs:={bX:=[(3,[0,1,2,3,4,7,8,9,10,11,5,6,12,13])]}
def Tryz.RU:Fs:={L:=[5,6,12,15,16,44,82,118,153,165]}
def Tryz.RV:Fs:={L:=[1]}
def Tryz.RW:Fs:={L:=[1,2,3,16]}
def Tryz.RX:Fs:={L:=[4,5],LL:=[25,30,45,50],bX:=[(6,[0,1,3,6,8,2,4,7,9,5,10,11,12]),(11,[0,1,3,6,8,2,4,7,9,5,10,11,12])]}
def Tryz.RY:Fs:={L:=[1,2],LL:=[4,7,11],trees:=[(1,(.one 0 (.one 3 (.one 7 (.one 1 (.one 4 (.one 8 (.alt 2 (.alt 5 (.one 6 (.one 9 (.one 10 (.one 11 .nil)))) (.alt 6 (.one 5 (.one 9 (.one 10 (.one 11 .nil)))) .eJ)) (.alt 6 (.one 2 (.one 5 (.one 9 (.one 10 (.one 11 .nil))))) .eJ)))))))))]}
def Tryz.RZ:Fs:={L:=[4,5,7,8,10]}
def Tryz.R0:Fs:={L:=[5,6,8,9,12],LL:=[14,20,21,23,28,46,48,52,53,55,56,57],bX:=[(1,[0,2,1,3,4,5,6,9,11,7,8,10,12,13,15,14,16,17,18]),(7,[0,1,3,2,4,5,6,7,10,8,9,11,12,13,14,15,16,17])]}
def Tryz.R1:Fs:={L:=[1]}
def Tryz.R2:Fs:={L:=[2,3,20]}
def Tryz.R3:Fs:={L:=[2]}
def Tryz.R4:Fs:={L:=[3,9],LL:=[14],bX:=[(1,[0,1,2,4,3,5,6]),(12,[0,1,2,3,5,6,7,8,13,4,9,10,11,12,14,15,16,17])]}
def Tryz.R5:Fs:={L:=[3,30],LL:=[29],trees:=[(3,(.one 0 (.one 1 (.one 2 (.one 3 (.one 5 (.one 6 (.one 7 (.one 8 (.one 13 (.one 14 (.alt 4 (.one 9 (.one 10 (.one 11 (.one 12 (.one 15 (.one 16 (.one 17 (.one 18 .nil)))))))) (.alt 9 (.one 10 (.one 11 (.one 12 (.alt 4 (.one 15 (.one 16 (.one 17 (.one 18 .nil)))) (.alt 15 (.one 4 (.one 16 (.one 17 (.one 18 .nil)))) .eJ))))) .eJ)))))))))))))]}
def Tryz.R6:Fs:={L:=[8]}
def Tryz.E7:Fs:={L:=[4],LL:=[22,45],bX:=[(5,[0,1,2,4,5,3,6]),(11,[0,1,2,4,5,6,8,9,10,3,7,11,12])],trees:=[(6,(.one 0 (.one 1 (.one 2 (.one 3 (.one 5 (.one 6 (.one 7 (.one 12 (.one 13 (.one 14 (.one 20 (.one 23 (.one 21 (.alt 4 (.alt 8 (.one 9 (.one 10 (.alt 11 (.one 15 (.one 16 (.one 17 (.one 18 (.one 19 (.one 22 (.one 24 .nil))))))) (.alt 15 (.one 16 (.one 11 (.one 17 (.one 18 (.one 19 (.one 22 (.one 24 .nil))))))) .eJ)))) (.alt 15 (.one 16 (.one 8 (.one 9 (.one 10 (.one 11 (.one 17 (.one 18 (.one 19 (.one 22 (.one 24 .nil)))))))))) .eJ)) (.alt 8 (.one 9 (.one 10 (.alt 4 (.alt 11 (.one 15 (.one 16 (.one 17 (.one 18 (.one 19 (.one 22 (.one 24 .nil))))))) (.alt 15 (.one 16 (.one 11 (.one 17 (.one 18 (.one 19 (.one 22 (.one 24 .nil))))))) .eJ)) (.alt 11 (.alt 4 (.one 15 (.one 16 (.one 17 (.one 18 (.one 19 (.one 22 (.one 24 .nil))))))) (.alt 15 (.one 16 (.one 17 (.one 18 (.alt 4 (.one 19 (.one 22 (.one 24 .nil))) (.alt 19 (.one 4 (.one 22 (.one 24 .nil))) .eJ))))) .eJ)) (.alt 15 (.one 16 (.alt 4 (.one 11 (.one 17 (.one 18 (.one 19 (.one 22 (.one 24 .nil)))))) (.alt 11 (.one 17 (.one 18 (.alt 4 (.one 19 (.one 22 (.one 24 .nil))) (.alt 19 (.one 4 (.one 22 (.one 24 .nil))) .eJ)))) .eJ))) .eJ))))) (.alt 15 (.one 16 (.alt 4 (.one 8 (.one 9 (.one 10 (.one 11 (.one 17 (.one 18 (.one 19 (.one 22 (.one 24 .nil))))))))) (.alt 8 (.one 9 (.one 10 (.alt 4 (.one 11 (.one 17 (.one 18 (.one 19 (.one 22 (.one 24 .nil)))))) (.alt 11 (.one 17 (.one 18 (.alt 4 (.one 19 (.one 22 (.one 24 .nil))) (.alt 19 (.one 4 (.one 22 (.one 24 .nil))) .eJ)))) .eJ)))) .eJ))) .eJ)))))))))))))))))],M:=[43,171]}
theorem Tryz.CE:gH E7 Tryz.f136 3=true:=by kernel_rfl
def Tryz.xH:Fs:={L:=[4,7],LL:=[14,21,36,39,71,87,105,111,122,128,139,154,157],bX:=[(3,[0,1,3,4,5,6,8,2,9,7,10,11]),(14,[0,1,2,4,6,7,8,11,12,5,3,9,13,10,14,15]),(16,[0,1,2,3,5,11,6,12,4,7,8,9,10,13,14,15]),(18,[0,1,2,4,10,12,13,5,11,3,14,6,7,8,9,15,16]),(21,[0,1,2,3,4,5,6,7,9,10,11,18,16,19,20,8,12,13,14,15,17,21,22,23])],trees:=[(7,(.one 0 (.one 1 (.one 4 (.one 8 (.one 9 (.one 10 (.one 2 (.one 5 (.alt 3 (.alt 6 (.alt 7 (.one 11 (.one 12 (.one 13 .nil))) (.alt 11 (.one 7 (.one 12 (.one 13 .nil))) .eJ)) (.alt 11 (.one 6 (.one 7 (.one 12 (.one 13 .nil)))) .eJ)) (.alt 11 (.one 3 (.one 6 (.one 7 (.one 12 (.one 13 .nil))))) .eJ))))))))))),(12,(.one 0 (.one 1 (.one 2 (.one 3 (.one 5 (.one 7 (.one 8 (.one 9 (.one 6 (.alt 4 (.one 10 (.one 11 (.one 12 (.one 13 (.one 14 .nil))))) (.alt 10 (.one 4 (.one 11 (.one 12 (.one 13 (.one 14 .nil))))) .eJ))))))))))))],M:=[134,175]}
theorem Tryz.sS:gH xH Tryz.f137 3=true:=by kernel_rfl
def Tryz.LF:Fs:={L:=[2,5]}
theorem Tryz.J8:gH LF Tryz.f138 1=true:=by kernel_rfl
def Tryz.R7:Fs:={L:=[3,22],LL:=[21],bX:=[(4,[0,1,2,3,5,6,4,7,8,9,10])]}
def Tryz.E8:Fs:={L:=[2,3]}
theorem Tryz.CF:gH E8 Tryz.f140 2=true:=by kernel_rfl
def Tryz.Is:Fs:={bX:=[(8,[0,1,2,3,4,5,7,6,8,9,10,11,12,13,14,15,16,17,18,19,20,21,22,23,25,26,27,29,24,28,30,31,32,33,34])]}
theorem Tryz.E9:gH Is Tryz.f141 3=true:=by kernel_rfl
def Tryz.R8:Fs:={L:=[3]}
def Tryz.R9:Fs:={L:=[3]}
def Tryz.Sa:Fs:={}
def Tryz.Sb:Fs:={L:=[5,29],LL:=[23],bX:=[(5,[0,2,3,4,1,5,6,7,8,9,10])]}
def Tryz.Sc:Fs:={L:=[5,31]}
def Tryz.Sd:Fs:={}
def Tryz.LG:Fs:={L:=[6],LL:=[49],bX:=[(9,[0,1,2,4,5,3,6,7])]}
theorem Tryz.J9:gH LG Tryz.f148 3=true:=by kernel_rfl
def Tryz.LH:Fs:={L:=[8],LL:=[36],bX:=[(6,[0,1,2,4,5,3,6,7])]}
theorem Tryz.Ka:gH LH Tryz.f149 4=true:=by kernel_rfl
def Tryz.Se:Fs:={bX:=[(2,[0,1,2,3,4,5,6,8,9,10,11,13,16,17,7,12,14,15,18,19,20])]}
def Tryz.Sf:Fs:={}
def Tryz.Sg:Fs:={}
def Tryz.Sh:Fs:={}
def Tryz.Si:Fs:={}
def Tryz.Sj:Fs:={L:=[4,5,6,7,8]}
def Tryz.Sk:Fs:={L:=[1,12]}
def Tryz.Sl:Fs:={}
def Tryz.Sm:Fs:={L:=[4,6],LL:=[27],bX:=[(7,[0,1,3,4,5,8,9,10,2,6,7,11,12,13])]}
def Tryz.It:Fs:={L:=[3,4,5,6,27],LL:=[34,35,38,47,49],bX:=[(8,[0,3,4,6,1,2,5,7,8,9,10,11,12,13,14,15,16]),(9,[1,3,7,0,2,4,5,6,8,9,10,11,12])]}
theorem Tryz.Fa:gH It Tryz.f159 3=true:=by kernel_rfl
def Tryz.Sn:Fs:={L:=[4,5,6,11,13,15,17],LL:=[112,115,118,128,132,135],bX:=[(21,[1,2,5,9,0,3,6,4,7,8,10,11,12,13,14]),(23,[0,2,3,4,7,1,5,8,6,9,10,11,12,13,14,15,16])]}
def Tryz.So:Fs:={L:=[4,5,6,9],LL:=[30,32,34,46,48,50,76,78],bX:=[(8,[1,3,0,2,4,5,6,7,8,9,10,11]),(12,[0,2,4,6,7,1,3,5,8,9,10,11]),(20,[1,3,4,0,2,5,6,7,8,9,10,11])]}
def Tryz.Sp:Fs:={L:=[4,5,7],LL:=[10,17,18,20],bX:=[(1,[0,2,1,3,4,5,6,7,10,12,8,9,11,13,14,15,16,17])]}
def Tryz.Sq:Fs:={L:=[2,3,4],LL:=[7,10],trees:=[(1,(.one 1 (.one 4 (.one 2 (.one 5 (.one 6 (.alt 0 (.alt 3 (.one 7 (.one 8 (.one 9 .nil))) (.alt 7 (.one 3 (.one 8 (.one 9 .nil))) .eJ)) (.alt 7 (.one 0 (.one 3 (.one 8 (.one 9 .nil)))) .eJ))))))))]}
def Tryz.Sr:Fs:={L:=[2]}
def Tryz.Ss:Fs:={L:=[2,3]}
def Tryz.Su:Fs:={}
def Tryz.Sv:Fs:={}
def Tryz.Sw:Fs:={}
def Tryz.Sy:Fs:={}
def Tryz.Sz:Fs:={L:=[45],trees:=[(4,(.one 0 (.one 1 (.one 2 (.one 4 (.one 5 (.one 6 (.one 11 (.one 12 (.one 13 (.one 14 (.alt 3 (.one 7 (.one 8 (.one 9 (.one 10 (.one 15 (.one 16 (.one 17 (.one 18 .nil)))))))) (.alt 7 (.one 8 (.one 9 (.one 10 (.alt 3 (.one 15 (.one 16 (.one 17 (.one 18 .nil)))) (.alt 15 (.one 3 (.one 16 (.one 17 (.one 18 .nil)))) .eJ))))) .eJ)))))))))))))]}
def Tryz.SA:Fs:={L:=[4]}
def Tryz.SB:Fs:={L:=[3,9]}
def Tryz.SC:Fs:={L:=[3],LL:=[47],bX:=[(1,[0,1,2,4,5,6,11,12,13,3,7,8,9,10,14,15,16,17,18,19,20,21,22,23]),(4,[0,1,2,4,3,5,6,7]),(5,[0,1,2,4,5,6,3,7,8,9])]}
def Tryz.SD:Fs:={L:=[18,35],trees:=[(6,(.one 0 (.one 1 (.one 2 (.one 4 (.one 5 (.one 6 (.one 11 (.one 12 (.one 13 (.one 14 (.alt 3 (.one 7 (.one 8 (.one 9 (.one 10 (.one 15 (.one 16 (.one 17 (.one 18 .nil)))))))) (.alt 7 (.one 8 (.one 9 (.one 10 (.alt 3 (.one 15 (.one 16 (.one 17 (.one 18 .nil)))) (.alt 15 (.one 3 (.one 16 (.one 17 (.one 18 .nil)))) .eJ))))) .eJ)))))))))))))]}
def Tryz.SE:Fs:={}
def Tryz.SF:Fs:={bX:=[(9,[0,1,2,3,4,5,6,7,8,9])]}
def Tryz.SG:Fs:={}
def Tryz.LI:Fs:={L:=[4],LL:=[8,20,43],bX:=[(1,[0,1,2,3,4,5,6,7,12,13,14,8,9,10,11,15,16,17,18,19,20]),(5,[0,1,2,7,8,9,3,4,5,6,10,11])]}
theorem Tryz.Kb:gH LI Tryz.f179 3=true:=by kernel_rfl
def Tryz.SH:Fs:={}
def Tryz.SI:Fs:={L:=[5]}
def Tryz.SJ:Fs:={}
def Tryz.SK:Fs:={L:=[3]}
def Tryz.SL:Fs:={}
def Tryz.SM:Fs:={L:=[2]}
def Tryz.LJ:Fs:={L:=[3,22],LL:=[21],bX:=[(2,[0,1,2,3,4,6,7,5,8,9,10,11,12])]}
theorem Tryz.Kc:gH LJ Tryz.f186 2=true:=by kernel_rfl
def Tryz.SN:Fs:={L:=[3]}
def Tryz.LK:Fs:={L:=[3,6,26]}
theorem Tryz.Ke:gH LK Tryz.f188 3=true:=by kernel_rfl
def Tryz.SO:Fs:={}
def Tryz.SP:Fs:={L:=[4,7,9],LL:=[22,27,30,34,35],bX:=[(4,[0,2,3,4,8,1,6,5,7,9]),(5,[0,1,2,3,4,7,8,9,5,6,10,11,12])]}
def Tryz.SQ:Fs:={L:=[2,3]}
def Tryz.SR:Fs:={bX:=[(1,[5,0,1,2,3,4,6,7,8])]}
def Tryz.SS:Fs:={L:=[2]}
def Tryz.SU:Fs:={}
def Tryz.SV:Fs:={}
def Tryz.SW:Fs:={L:=[7,8,9,10]}
def Tryz.SX:Fs:={}
def Tryz.SY:Fs:={}
def Tryz.SZ:Fs:={L:=[4,5,6,7],LL:=[28,32,37,51,55,60],bX:=[(7,[0,2,3,4,6,9,11,1,5,7,10,12,8,13,14,15,16]),(11,[0,2,3,4,6,9,11,1,5,7,10,12,8,13,14,15,16])]}
def Tryz.S0:Fs:={}
def Tryz.S1:Fs:={}
def Tryz.S2:Fs:={}
def cH (x:Int):Prop:=-9223372036854775808<=x/\x<=9223372036854775807
structure dH where
 bO:Int
 fields:List Int
structure dF where
 told:Bool
 locals:List Int
 stack:List Int
structure dc where
 kind:Int
 a:Int
 b:Int
structure kg where
 lo:Int
 hi:Int
 to:Int
 cls:Int
structure cu where
 cls:Int
 er:Int
 args:List Int
 out:Int
 locals:Int
 code:List dc
 aT:List dF
 catches:List kg
structure aS where
 aq:List dH
 methods:List cu
structure Vl where
 ref:Bool
 n:Int
structure Ob where
 cls:Int
 bp:List Vl
structure bL where
 aC:Int
 pc:Int
 locals:List Vl
 stack:List Vl
structure bH where
 objs:List Ob
 au:List bL
 said:List Int
 steps:Int
 fin:Int
 out:Vl
theorem xI {h:Heap} {b:Nat}:∀ {n off:Nat} {vs:List Value},dQ h b off n=some vs->vs.length=n
 | 0,_,vs,hr=>by simp only[dQ,Option.some.injEq]at hr;subst hr;rfl
 | n+1,off,vs,hr=>by
  simp only[dQ]at hr;split at hr
  ·rename_i v r c a;simp only[Option.some.injEq]at hr;subst hr;simp[xI a]
  cases hr
theorem aM {h:Heap} {b:Nat}:∀ {n off:Nat} {vs:List Value},dQ h b off n=some vs->∀ {i:Nat} {v:Value},vs[i]? = some v->rd h b (off+i)=some v
 | 0,_,vs,hr,i,v,hv=>by simp only[dQ,Option.some.injEq]at hr;subst hr;simp at hv
 | n+1,off,vs,hr,i,v,hv=>by
  simp only[dQ]at hr;split at hr
  ·rename_i x r a c;simp only[Option.some.injEq]at hr;subst hr;cases i with
   | zero=>simp at hv;subst hv;exact a
   | succ i =>
    have:=aM c (i:=i) (v:=v) (by simpa using hv);rw[show off+(i+1)=off+1+i by omega];exact this
  cases hr
def Row {f:Type} (d:Nat) (R:Heap->List Value->f->Prop) (h:Heap) (v:Value) (l:List f):Prop :=
 l.length<=140737488351232/\∃ p c,v=.slice p l.length c/\l.length<=c/\(l=[]\/∃ b a,p=some ⟨b,a,none⟩/\∀ i x,l[i]? = some x->∃ e,dQ h b (a+i*d) d=some e/\R h e x)
theorem bG {h h':Heap} (a:h.le h') {b n off:Nat} {vs:List Value} (c:dQ h b off n=some vs):dQ h' b off n=some vs:=gv a n off vs c
theorem Row.le {b:Type} {a:Nat} {R:Heap->List Value->b->Prop} {h h':Heap} {v:Value} {l:List b} (p:h.le h') (i:∀ vs x,R h vs x->R h' vs x) (q:Row a R h v l):Row a R h' v l:=by
 obtain⟨e,w,d,rfl,f,g⟩:=q;refine⟨e,w,d,rfl,f,g.imp id ?_⟩;rintro⟨c,u,rfl,s⟩;refine⟨c,u,rfl,λt x o=>?_⟩;obtain⟨vs,j,m⟩:=s t x o;exact⟨vs,bG p j,i _ _ m⟩
theorem Row.get {f:Type} {a:Nat} {R:Heap->List Value->f->Prop} {h:Heap} {p:Option Addr} {n c:Nat} {l:List f} (o:Row a R h (.slice p n c) l) {i:Nat} (e:i < l.length) :
  ∃ b off vs,p=some ⟨b,off,none⟩/\dQ h b (off+i*a) a=some vs/\R h vs l[i]:=by
 obtain⟨_,t,s,d,_,g⟩:=o;simp only[Value.slice.injEq]at d;obtain⟨rfl,rfl,rfl⟩:=d;rcases g with rfl|⟨b,off,rfl,q⟩
 ·simp at e
 obtain⟨vs,j,m⟩:=q i l[i] (by simp[e]);exact⟨b,off,vs,rfl,j,m⟩
theorem Row.len {a:Type} {g:Nat} {R:Heap->List Value->a->Prop} {h:Heap} {v:Value} {l:List a} (f:Row g R h v l):∃ p c,v=.slice p l.length c/\l.length<=c/\l.length<=140737488351232:=by
 obtain⟨b,p,c,e,d,_⟩:=f;exact⟨p,c,e,d,b⟩
def Oq (_:Heap) (vs:List Value) (x:Int):Prop:=vs=[.int .i64 x]/\cH x
abbrev cR:=Row 1 Oq
def vQ (h:Heap) (vs:List Value) (c:dH):Prop:=∃ f,vs=[.int .i64 c.bO,f]/\cH c.bO/\cR h f c.fields
def jJ (h:Heap) (vs:List Value) (s:dF):Prop:=∃ l k,vs=[.bool s.told,l,k]/\cR h l s.locals/\cR h k s.stack
def xJ (_:Heap) (vs:List Value) (x:dc):Prop:=vs=[.int .i64 x.kind,.int .i64 x.a,.int .i64 x.b]/\cH x.kind/\cH x.a/\cH x.b
def y9 (_:Heap) (vs:List Value) (x:kg):Prop:=vs=[.int .i64 x.lo,.int .i64 x.hi,.int .i64 x.to,.int .i64 x.cls]/\cH x.lo/\cH x.hi/\cH x.to/\cH x.cls
def dO (h:Heap) (vs:List Value) (m:cu):Prop:=∃ a c s k,vs=[.int .i64 m.cls,.int .i64 m.er,a,.int .i64 m.out,.int .i64 m.locals,c,s,k]/\cH m.cls/\cH m.er/\cH m.out/\cH m.locals /\
 cR h a m.args/\Row 3 xJ h c m.code/\Row 3 jJ h s m.aT/\Row 4 y9 h k m.catches
def cZ (h:Heap) (vs:List Value) (u:aS):Prop:=∃ c m,vs=[c,m]/\Row 2 vQ h c u.aq/\Row 8 dO h m u.methods
theorem cR.le {h h':Heap} {v:Value} {l:List Int} (a:h.le h') (b:cR h v l):cR h' v l:=Row.le a (λ_ _ c=>c) b
theorem vQ.le {h h':Heap} (e:h.le h') {vs:List Value} {c:dH} (g:vQ h vs c):vQ h' vs c:=by
 obtain⟨f,a,b,d⟩:=g;exact⟨f,a,b,d.le e⟩
theorem jJ.le {h h':Heap} (a:h.le h') {vs:List Value} {c:dF} (i:jJ h vs c):jJ h' vs c:=by
 obtain⟨f,g,b,d,e⟩:=i;exact⟨f,g,b,d.le a,e.le a⟩
theorem dO.le {h h':Heap} (a:h.le h') {vs:List Value} {c:cu} (s:dO h vs c):dO h' vs c:=by
 obtain⟨d,c,t,k,e,f,g,i,j,m,o,p,q⟩:=s;exact⟨d,c,t,k,e,f,g,i,j,m.le a,o.le a (λ_ _ b=>b),p.le a (λ_ _ b=>b.le a),q.le a (λ_ _ b=>b)⟩
theorem cZ.le {h h':Heap} (a:h.le h') {vs:List Value} {c:aS} (g:cZ h vs c):cZ h' vs c:=by
 obtain⟨c,m,d,e,f⟩:=g;exact⟨c,m,d,e.le a (λ_ _ b=>b.le a),f.le a (λ_ _ b=>b.le a)⟩
set_option maxRecDepth 100000
def isWord (n:Int):Bool:=decide (-128<=n/\n<=127)
@[irreducible] def w8 (n:Int):Int:=(n+128) % 256-128
def fJ (c a b:Int):Int × Bool :=
 if isWord a/\isWord b then
  if c=1 then (w8 (a+b),true)else if c=2 then (w8 (a-b),true)else if c=3 then (w8 (a*b),true)
  else if c=4/\b≠0 then (w8 (a.tdiv b),true)else (0,false)
 else (0,false)
def Ns (x:Int × Bool):Value:=.tuple #[.int .i64 x.1,.bool x.2]
theorem za (n:Int):IntKind.i8.wrap n=w8 n:=by
 simp[IntKind.wrap,IntKind.bits,IntKind.signed,w8];omega
theorem mO (n:Int) : -128<=w8 n/\w8 n<=127:=by unfold w8;omega
theorem eA {n:Int}:isWord n=true↔-128<=n/\n<=127:=by simp[isWord]
theorem qh {c a b:Int} (h:c < 1\/4 < c\/isWord a=false\/isWord b=false\/(c=4/\b=0)):fJ c a b=(0,false):=by
 unfold fJ;split
 ·rename_i e;have d:c≠1/\c≠2/\c≠3/\¬(c=4/\b≠0):=by
   rcases h with h|h|h|h|h
   ·omega
   ·omega
   ·rw[e.1]at h;cases h
   ·rw[e.2]at h;cases h
   omega
  rw[if_neg d.1,if_neg d.2.1,if_neg d.2.2.1,if_neg d.2.2.2]
 rfl
theorem Ot {n:Int} (h : -128<=n/\n<=127):w8 n=n:=by unfold w8;omega
theorem qi (n:Int) (h:Heap):Pure prog 59 [.int .i64 n] h (.bool (isWord n)):=by
 refine fD aB func59 Y9 U rfl ?_;conv=>whnf
 apply aD<;>intro a;all_goals conv=>whnf
 all_goals exact⟨by simp[isWord,a],rfl⟩
theorem de (n c b:Int) (h:Heap):Pure prog 23 [.int .i64 n,.int .i64 c,.int .i64 b] h (.bool (decide (c<=n/\n<=b))):=by
 refine fD aB func23 YD U rfl ?_;conv=>whnf
 apply aD<;>intro a;all_goals conv=>whnf
 all_goals exact⟨by simp[a],rfl⟩
theorem m8 (n:Int) (h:Heap):Pure prog 27 [.int .i64 n] h (.bool (isWord n)):=by
 refine fD aB func27 YH U rfl ?_;conv=>whnf
 refine ax (de _ _ _ _) ?_;conv=>whnf
 exact⟨rfl,rfl⟩
theorem Ou (a b:Int) (h:Heap):Pure prog 167 [.int .i8 a,.int .i8 b] h (.int .i8 (w8 (a+b))):=by
 refine fD aB func167 Su U rfl ?_;conv=>whnf
 refine m7 ?_;conv=>whnf
 exact⟨by rw[za],rfl⟩
theorem Ov (a b:Int) (h:Heap):Pure prog 168 [.int .i8 a,.int .i8 b] h (.int .i8 (w8 (a-b))):=by
 refine fD aB func168 Sv U rfl ?_;conv=>whnf
 refine m7 ?_;conv=>whnf
 exact⟨by rw[za],rfl⟩
theorem Ow (a b:Int) (h:Heap):Pure prog 169 [.int .i8 a,.int .i8 b] h (.int .i8 (w8 (a*b))):=by
 refine fD aB func169 Sw U rfl ?_;conv=>whnf
 refine m7 ?_;conv=>whnf
 exact⟨by rw[za],rfl⟩
theorem Ox (a b:Int) (h:Heap) (c:b≠0):Pure prog 170 [.int .i8 a,.int .i8 b] h (.int .i8 (w8 (a.tdiv b))):=by
 refine fD aB func170 Sy U rfl ?_;conv=>whnf
 refine ob c ?_;conv=>whnf
 refine m7 ?_;conv=>whnf
 exact⟨by rw[za],rfl⟩
theorem LM {a b:Int} (g : -128<=a/\a<=127) (h : -128<=b/\b<=127) : -16384<=a*b/\a*b<=16384:=by
 have c:0<=(128-a)*(128-b):=Int.mul_nonneg O O;have d:0<=(128+a)*(128+b):=Int.mul_nonneg O O;have e:0<=(128-a)*(128+b):=Int.mul_nonneg O O;have f:0<=(128+a)*(128-b):=Int.mul_nonneg O O;constructor<;>grind
theorem Fb {a b:Int} (c : -128<=a/\a<=127) : -128<=a.tdiv b/\a.tdiv b<=128:=by
 have h:(a.tdiv b).natAbs<=a.natAbs:=by rw[Int.natAbs_tdiv];exact Nat.div_le_self _ _
 omega
theorem wu {c a b:Int} (d:isWord a=true) (e:isWord b=true):fJ c a b=if c=1 then (w8 (a+b),true)else if c=2 then (w8 (a-b),true)else if c=3 then (w8 (a*b),true)
  else if c=4/\b≠0 then (w8 (a.tdiv b),true)else (0,false):=by unfold fJ;rw[if_pos ⟨d,e⟩]
theorem S3 {a:Int} (b:isWord a=true):IntKind.i8.wrap a=a:=by rw[za,Ot (eA.1 b)]
theorem Fc (c a b:Int) (h:Heap):Pure prog 135 [.int .i64 c,.int .i64 a,.int .i64 b] h (Ns (fJ c a b)):=by
 refine fD aB func135 R6 U rfl ?_;by_cases g:c=1\/c=2\/c=3\/c=4
 ·rcases g with rfl|rfl|rfl|rfl;all_goals
   conv=>whnf
   repeat' ((first
    | apply aD<;>intro d
    | apply cq<;>intro d
    | refine ax (qi _ _) ?_
    | refine ay ?_
    | refine m7 ?_
    | refine ax (Ou _ _ _) ?_
    | refine ax (Ov _ _ _) ?_
    | refine ax (Ow _ _ _) ?_
    | refine ax (Ox _ _ _ (by rw[S3 (by assumption)];assumption)) ?_)<;>(conv=>whnf))
   all_goals first
    | (refine⟨?_,rfl⟩;rw[qh (by simp[*])];rfl)
    | (
     refine⟨?_,rfl⟩;have e:isWord a=true:=by assumption
     have f:isWord b=true:=by assumption
     rw[wu e f,S3 e,S3 f,wrap_i64 (by have:=mO (a+b);have:=mO (a-b);have:=mO (a*b);have:=mO (a.tdiv b);omega) (by have:=mO (a+b);have:=mO (a-b);have:=mO (a*b);have:=mO (a.tdiv b);omega)];simp[Ns, *])
 conv=>whnf
 repeat' ((first
  | apply aD<;>intro d)<;>(conv=>whnf))
 all_goals first
  | (refine⟨?_,rfl⟩;rw[qh O];rfl)
  | (exfalso;omega)
theorem Iu (n:Int) : -255<=n.tmod 256/\n.tmod 256<=255/\(n.tmod 256-n) % 256=0:=by
 rcases Int.lt_or_le n 0 with h|h
 ·have a:n.tmod 256 = - ((-n) % 256):=by
   rw[show n = - (-n)by omega,Int.neg_tmod,Int.tmod_eq_emod_of_nonneg O];simp
  omega
 rw[Int.tmod_eq_emod_of_nonneg h];omega
theorem Ba (n:Int) (h:Heap):Pure prog 198 [.int .i64 n] h (.int .i64 (w8 n)):=by
 refine fD aB func198 SY U rfl ?_;have b:=Iu n;conv=>whnf
 refine ay ?_;conv=>whnf
 repeat' ((first
  | apply aD<;>intro a
  | refine av ?_)<;>(conv=>whnf))
 all_goals exact⟨by unfold w8;congr 1;omega,rfl⟩
theorem Fe (g a b:Int) (h:Heap):Pure prog 184 [.int .i64 g,.int .i64 a,.int .i64 b] h (Ns (fJ g a b)):=by
 refine fD aB func184 SL U rfl ?_;conv=>whnf
 refine ax (m8 _ _) ?_;conv=>whnf
 apply cq<;>intro c;all_goals conv=>whnf
 ·exact⟨by rw[qh (by simp[*])];rfl,rfl⟩
 refine ax (m8 _ _) ?_;conv=>whnf
 apply cq<;>intro d;all_goals conv=>whnf
 ·exact⟨by rw[qh (by simp[*])];rfl,rfl⟩
 have f:=eA.1 c;have i:=eA.1 d;have j:=LM f i;have m:=Fb (b:=b) f;repeat' ((first
  | apply aD<;>intro e
  | apply aU<;>intro e
  | refine av ?_
  | refine ay ?_
  | refine ax (Ba _ _) ?_)<;>(conv=>whnf))
 all_goals (refine⟨?_,rfl⟩;rw[wu c d];simp[Ns, *])
set_option maxHeartbeats 4000000
noncomputable def tf (p:Prop):Value:=.bool (@decide p (Classical.propDecidable p))
theorem ei {p:Prop} (a:p):tf p=.bool true:=by unfold tf;rw[@decide_eq_true p (Classical.propDecidable p) a]
theorem cS {p:Prop} (a:¬p):tf p=.bool false:=by unfold tf;rw[@decide_eq_false p (Classical.propDecidable p) a]
theorem vR {p q:Prop} {_:Decidable q} (b:p↔q):tf p=.bool (decide q):=by
 by_cases a:q
 ·rw[ei (b.2 a),decide_eq_true a]
 rw[cS (λx=>a (b.1 x)),decide_eq_false a]
theorem dx {p:Prop} (a:p):Value.bool true=tf p:=(ei a).symm
theorem bS {p:Prop} (a:¬p):Value.bool false=tf p:=(cS a).symm
theorem eM {p q:Prop} {_:Decidable q} (a:p↔q):Value.bool (decide q)=tf p:=(vR a).symm
def dY (n t:Int):Value :=
 if t=0 then .iface 208 (.agg #[])else if t=1 then .iface 178 (.agg #[])else if t=2 then .iface 209 (.agg #[])
 else if t=3 then .iface 180 (.agg #[.bool false])else if t=4 then .iface 180 (.agg #[.bool true])
 else if 8<=t/\t < 8+n then .iface 182 (.agg #[.int .i64 (t-8)])else .nilIface
theorem qj (n t:Int) (h:Heap) (c:0<=n/\n<=140737488351232) (b:cH t):Pure prog 153 [.int .i64 n,.int .i64 t] h (dY n t):=by
 obtain⟨t0,t1⟩:=b;refine fD aB func153 Sh U rfl ?_;conv=>whnf
 repeat' ((first
  | apply aD<;>intro a
  | refine av ?_)<;>conv=>whnf)
 all_goals exact⟨by simp[dY, *];try omega,rfl⟩
def cL (n t:Int):Prop:=t=1\/t=3\/t=4\/(8<=t/\t < 8+n)
theorem m9 (n t:Int) (h:Heap) (e:0<=n/\n<=140737488351232) (f:cH t):Pure prog 115 [.int .i64 n,.int .i64 t] h (tf (cL n t)):=by
 refine fD aB func115 RN U rfl ?_;have c:=qj n t h e f;have a:∀ v,dY n t=v->Pure prog 153 [.int .i64 n,.int .i64 t] h v:=by rintro v rfl;exact c
 have d:t=0\/t=1\/t=2\/t=3\/t=4\/(8<=t/\t < 8+n)\/(t≠0/\t≠1/\t≠2/\t≠3/\t≠4/\¬(8<=t/\t < 8+n)):=by omega
 conv=>whnf
 rcases d with rfl|rfl|rfl|rfl|rfl|b|⟨b,g,i,j,m,o⟩
 ·refine ax (a (.iface 208 (.agg #[])) (by simp[dY])) ?_;conv=>whnf
  refine ey rfl (λw=>rfl) ?_;conv=>whnf
  refine ey rfl (λw=>rfl) ?_;conv=>whnf
  refine ey rfl (λw=>rfl) ?_;conv=>whnf
  exact⟨by rw[cS];unfold cL;omega,rfl⟩
 ·refine ax (a (.iface 178 (.agg #[])) (by simp[dY])) ?_;conv=>whnf
  refine ey rfl (λw=>rfl) ?_;conv=>whnf
  refine ey rfl (λw=>rfl) ?_;conv=>whnf
  refine ey rfl (λw=>rfl) ?_;conv=>whnf
  exact⟨by rw[ei];unfold cL;omega,rfl⟩
 ·refine ax (a (.iface 209 (.agg #[])) (by simp[dY])) ?_;conv=>whnf
  refine ey rfl (λw=>rfl) ?_;conv=>whnf
  refine ey rfl (λw=>rfl) ?_;conv=>whnf
  refine ey rfl (λw=>rfl) ?_;conv=>whnf
  exact⟨by rw[cS];unfold cL;omega,rfl⟩
 ·refine ax (a (.iface 180 (.agg #[.bool false])) (by simp[dY])) ?_;conv=>whnf
  refine ey rfl (λw=>rfl) ?_;conv=>whnf
  refine ey rfl (λw=>rfl) ?_;conv=>whnf
  refine ey rfl (λw=>rfl) ?_;conv=>whnf
  exact⟨by rw[ei];unfold cL;omega,rfl⟩
 ·refine ax (a (.iface 180 (.agg #[.bool true])) (by simp[dY])) ?_;conv=>whnf
  refine ey rfl (λw=>rfl) ?_;conv=>whnf
  refine ey rfl (λw=>rfl) ?_;conv=>whnf
  refine ey rfl (λw=>rfl) ?_;conv=>whnf
  exact⟨by rw[ei];unfold cL;omega,rfl⟩
 ·refine ax (a (.iface 182 (.agg #[.int .i64 (t-8)])) (by simp only[dY];(repeat' split)<;>first|rfl|(exfalso;omega))) ?_;conv=>whnf
  refine ey rfl (λw=>rfl) ?_;conv=>whnf
  refine ey rfl (λw=>rfl) ?_;conv=>whnf
  refine ey rfl (λw=>rfl) ?_;conv=>whnf
  exact⟨by rw[ei];unfold cL;omega,rfl⟩
 refine ax (a .nilIface (by simp[dY, *])) ?_;conv=>whnf
 refine ey rfl (λw=>rfl) ?_;conv=>whnf
 refine ey rfl (λw=>rfl) ?_;conv=>whnf
 refine ey rfl (λw=>rfl) ?_;conv=>whnf
 exact⟨by rw[cS];unfold cL;omega,rfl⟩
theorem kR (p:Option Addr) (n c:Nat) (x:Int) (h:Heap):Pure prog 116 [.slice p n c,.int .i64 x] h (tf (0<=x/\x < n)):=by
 refine fD aB func116 RO U rfl ?_;conv=>whnf
 apply aD<;>intro a;all_goals conv=>whnf
 ·exact⟨by rw[vR (q:=x < n)];omega,rfl⟩
 exact⟨by rw[cS];omega,rfl⟩
def bC (cs:List dH) (c:Int):Int:=match cs[c.toNat]? with
 | some x=>x.bO
 | none=>-1
theorem jK {cs:List dH} {i:Nat} (a:i < cs.length):bC cs i=cs[i].bO:=by simp[bC,a]
def fQ (n:Nat) (l:List Int):Prop:=∀ t∈l,cL n t
def uu (n:Nat) (i:Nat) (c:dH):Prop:=fQ n c.fields/\(i=0->c.bO = -1/\c.fields=[])/\(i=1->c.bO=0/\c.fields=[1])/\(1 < i->0<=c.bO/\c.bO < i)/\c.fields.length<=2
def cn (cs:List dH):Prop:=2<=cs.length/\cs.length<=5/\∀ i (a:i < cs.length),uu cs.length i cs[i]
abbrev eD:=Row 2 vQ
theorem eD.at {h:Heap} {p:Option Addr} {n c:Nat} {cs:List dH} (m:eD h (.slice p n c) cs) {i:Nat} (g:i < cs.length) :
  ∃ b off q k d,p=some ⟨b,off,none⟩/\dQ h b (off+i*2) 2=some [.int .i64 cs[i].bO,.slice q k d]/\rd h b (off+i*2)=some (.int .i64 cs[i].bO)/\rd h b (off+i*2+1)=some (.slice q k d)/\cH cs[i].bO/\cR h (.slice q k d) cs[i].fields/\k=cs[i].fields.length:=by
 obtain⟨b,off,s,j,a,o,rfl,f,e⟩:=m.get g;obtain⟨q,d,rfl,_,_⟩:=e.len;exact⟨b,off,q,_,d,j,a,aM a (i:=0) rfl,aM a (i:=1) rfl,f,e,rfl⟩
theorem Ff {l:List Int} {x:Int} (b:l.length=1) (a:l[0]=x):l=[x]:=by
 match l,b,a with
 | [y],_,a=>simp at a;rw[a]
theorem zd (p:Option Addr) (n c:Nat) (cs:List dH) (h:Heap) (s:eD h (.slice p n c) cs):Pure prog 51 [.slice p n c] h (tf (cn cs)):=by
 obtain rfl:n=cs.length:=by obtain⟨_,_,E,_⟩:=s.len;injection E
 have e:cs.length<=140737488351232:=by obtain⟨_,_,_,_,E⟩:=s.len;omega
 refine fD aB func51 Y1 U rfl ?_;conv=>whnf
 apply aD<;>intro T;all_goals conv=>whnf
 ·exact⟨by rw[cS];rintro⟨C,_⟩;omega,rfl⟩
 apply aD<;>intro C;all_goals conv=>whnf
 ·exact⟨by rw[cS];rintro⟨_,u,_⟩;omega,rfl⟩
 obtain⟨t,y,q0,k0,d0,q,a1,G,H,a4,a5,I⟩:=s.at (i:=0) O;obtain⟨b',DA,q1,k1,d1,A,J,B,b3,b4,K,L⟩:=s.at (i:=1) O;rw[q]at A;simp only[Option.some.injEq,Addr.mk.injEq,and_true]at A;obtain⟨rfl,rfl⟩:=A;subst q;refine ay ?_;conv=>whnf
 refine ptr ?_;conv=>whnf
 refine ld G ?_;conv=>whnf
 apply aU<;>intro u;all_goals conv=>whnf
 ·exact⟨by rw[cS];rintro⟨_,_,v⟩;exact u ((v 0 O).2.1 rfl).1,rfl⟩
 refine ay ?_;conv=>whnf
 refine ptr ?_;conv=>whnf
 refine ld H ?_;conv=>whnf
 apply aU<;>intro v;all_goals conv=>whnf
 ·exact⟨by rw[cS];rintro⟨_,_,f⟩;refine v ?_;have:=((f 0 O).2.1 rfl).2;rw[I,this];rfl,rfl⟩
 refine ay ?_;conv=>whnf
 refine ptr ?_;conv=>whnf
 refine dh J ?_;conv=>whnf
 apply aU<;>intro f;all_goals conv=>whnf
 ·exact⟨by rw[cS];rintro⟨_,_,w⟩;exact f ((w 1 O).2.2.1 rfl).1,rfl⟩
 apply aU<;>intro w;all_goals conv=>whnf
 ·exact⟨by rw[cS];rintro⟨_,_,g⟩;refine w ?_;have:=((g 1 O).2.2.1 rfl).2;rw[L,this];rfl,rfl⟩
 obtain⟨ZH,ZI,vs,hq,M,N,c3⟩:=K.get (i:=0) O;subst N;refine ay ?_;conv=>whnf
 refine aP hq ?_;conv=>whnf
 refine ld (aM M (i:=0) rfl) ?_;conv=>whnf
 apply aU<;>intro g;all_goals conv=>whnf
 ·exact⟨by rw[cS];rintro⟨_,_,o⟩;refine g ?_;have:=((o 1 O).2.2.1 rfl).2;simp[this],rfl⟩
 have W:cs[1].fields=[1]:=Ff O g;have V:cs[0].fields=[]:=List.eq_nil_of_length_eq_zero O;refine eu [0,48,49,50] [] (λi:Nat=>i<=cs.length/\∀ j (b:j < cs.length),j < i->(1 < j->0<=cs[j].bO/\cs[j].bO < j)/\cs[j].fields.length<=2/\fQ cs.length cs[j].fields) (λi=>cs.length-i)
  (λi=>([.v (.slice (some ⟨t,y,none⟩) cs.length c),.v (.slice (some ⟨t,y,none⟩) cs.length c),.v (.int .i64 cs.length),.v (.int .i64 i)],[],h)) 0 ⟨O,λj b h=>O⟩ rfl ?_
 rintro i ⟨hi,x⟩;conv=>whnf
 apply aD<;>intro LN;all_goals conv=>whnf
 ·obtain⟨B,S4,aa,k,P,q,Q,e2,e3,e4,R,e6⟩:=s.at (i:=i) O;simp only[Option.some.injEq,Addr.mk.injEq,and_true]at q;obtain⟨rfl,rfl⟩:=q;refine ay ?_;conv=>whnf
  refine ptr ?_;conv=>whnf
  refine dh (by simpa using Q) ?_;conv=>whnf
  have bad:¬((1 < i->0<=cs[i].bO/\cs[i].bO < i)/\cs[i].fields.length<=2/\fQ cs.length cs[i].fields)->.bool false=tf (cn cs):=by
   intro o;rw[cS];rintro⟨_,_,a⟩;have z:=a i O;exact o ⟨z.2.2.2.1,z.2.2.2.2,z.1⟩
  by_cases D:1 < i->0<=cs[i].bO/\cs[i].bO < i
  ·repeat' ((first
    | apply aD<;>intro _)<;>conv=>whnf)
   all_goals first
    | (exfalso;omega)
    | exact⟨bad (by rintro⟨_,d,_⟩;omega),rfl⟩
    | skip
   all_goals
    refine eu [0,48,49,50,73,74,75] [] (λm:Nat=>m<=k/\∀ l (e:l < cs[i].fields.length),l < m->cL cs.length cs[i].fields[l]) (λm=>k-m)
     (λm=>([.v (.slice (some ⟨t,y,none⟩) cs.length c),.v (.slice (some ⟨t,y,none⟩) cs.length c),.v (.int .i64 cs.length),.v (.int .i64 i),.v (.slice aa k P),.v (.int .i64 k),.v (.int .i64 m)],[],h)) 0 ⟨O,λl e h=>O⟩ rfl ?_
    rintro m ⟨hm,F⟩;conv=>whnf
    apply aD<;>intro o;all_goals conv=>whnf
    ·have ZJ:m < cs[i].fields.length:=by omega
     have S:=R.get ZJ;obtain⟨B,S4,vs,vS,f1,f2,f3⟩:=S;subst f2;refine ay ?_;conv=>whnf
     refine aP vS ?_;conv=>whnf
     refine ld (by simpa using aM f1 (i:=0) rfl) ?_;conv=>whnf
     refine ax (m9 _ _ _ O f3) ?_;conv=>whnf
     apply aU<;>intro d;all_goals conv=>whnf
     ·exact⟨bad (by rintro⟨_,_,a⟩;exact d (a cs[i].fields[m] (List.getElem_mem _))),rfl⟩
     refine av ?_;conv=>whnf
     refine cT (m+1) ⟨O,λl e Y=>?_⟩ O rfl;rcases Nat.lt_succ_iff_lt_or_eq.1 Y with a|rfl
     ·exact F l e a
     exact d
    refine av ?_;conv=>whnf
    refine cT (i+1) ⟨O,λj b X=>?_⟩ O rfl;rcases Nat.lt_succ_iff_lt_or_eq.1 X with a|rfl
    ·exact x j b a
    refine⟨D,O,λab ht=>?_⟩;obtain⟨l,e,rfl⟩:=List.mem_iff_getElem.1 ht;exact F l e O
  repeat' ((first
   | apply aD<;>intro _)<;>conv=>whnf)
  all_goals first
   | exact⟨bad (λd=>D d.1),rfl⟩
   | (exfalso;omega)
 exact⟨by
  rw[ei];refine⟨O,O,λj b=>⟨(x j b O).2.2,?_,?_,(x j b O).1,(x j b O).2.1⟩⟩
  ·rintro rfl;exact⟨u,V⟩
  rintro rfl;exact⟨f,W⟩,rfl⟩
def DB (cs:List dH) (b:Int):Nat->Int->Bool
 | 0,_=>false
 | k+1,a=>decide (0<=a)&&(decide (a=b)||DB cs b k (bC cs a))
def up (cs:List dH) (a b:Int):Bool:=DB cs b (a.toNat+1) a
theorem cn.bO {cs:List dH} (ok:cn cs) {a:Int} (h0:0<=a) (f:a < cs.length) : -1<=bC cs a/\bC cs a < a:=by
 have c:a.toNat < cs.length:=by omega
 have d:=jK c;have e:bC cs a=bC cs (a.toNat:Int):=by rw[Int.toNat_of_nonneg h0]
 have b:=ok.2.2 a.toNat c;rw[e,d];rcases Nat.lt_trichotomy a.toNat 1 with h|h|h
 ·have:=(b.2.1 O).1;omega
 ·have:=(b.2.2.1 h).1;omega
 have:=b.2.2.2.1 h;omega
theorem ze {cs:List dH} (ok:cn cs) (b:Int):∀(k:Nat) (a:Int),a < cs.length->a.toNat < k->DB cs b k a=DB cs b (k+1) a
 | 0,a,_,h=>by omega
 | k+1,a,hl,h=>by
  rw[DB,DB];by_cases c:0<=a
  ·have f:=ok.bO c hl;by_cases e:0<=bC cs a
   ·rw[ze ok b k (bC cs a) O O]
   have d:∀ k,DB cs b k (bC cs a)=false:=by
    intro k;cases k with
    | zero=>rfl
    | succ k=>rw[DB];simp[e]
   rw[d,d]
  simp[c]
theorem CG {cs:List dH} (ok:cn cs) (b:Int) (a:Int) (c:a < cs.length):∀(j:Nat),DB cs b (a.toNat+1+j) a=up cs a b
 | 0=>rfl
 | j+1=>by
  rw[<-CG ok b a c j];exact(ze ok b (a.toNat+1+j) a c O).symm
theorem ng {cs:List dH} {a b:Int} (h:a < 0):up cs a b=false:=by
 unfold up;rw[DB];simp[show ¬0<=a by omega]
theorem fR {cs:List dH} (ok:cn cs) {a b:Int} (h0:0<=a) (d:a < cs.length):up cs a b=(decide (a=b)||up cs (bC cs a) b):=by
 have e:=ok.bO h0 d;conv=>lhs;unfold up
 rw[DB];simp only[h0,decide_true,Bool.true_and];by_cases c:0<=bC cs a
 ·have:=CG ok b (bC cs a) O (a.toNat-(bC cs a).toNat-1);rw[show(bC cs a).toNat+1+(a.toNat-(bC cs a).toNat-1)=a.toNat by omega]at this;rw[this]
 rw[ng O];have:DB cs b a.toNat (bC cs a)=false:=by
  cases a.toNat with
  | zero=>rfl
  | succ k=>rw[DB];simp[c]
 rw[this]
theorem Bb {cs:List dH} (ok:cn cs):∀(k:Nat) {a b:Int},a.toNat < k->a < cs.length->a < b->up cs a b=false
 | 0,a,b,h,_,_=>by omega
 | k+1,a,b,h,hl,hb=>by
  by_cases c:0<=a
  ·have e:=ok.bO c hl;rw[fR ok c hl];by_cases d:0<=bC cs a
   ·rw[Bb ok k O O O];simp[show a≠b by omega]
   rw[ng O];simp[show a≠b by omega]
  exact ng O
theorem eD.n {h:Heap} {p:Option Addr} {n c:Nat} {cs:List dH} (b:eD h (.slice p n c) cs):n=cs.length:=by obtain⟨_,_,a,_⟩:=b.len;injection a
theorem og (p:Option Addr) (n c:Nat) (cs:List dH) (a b:Int) (h:Heap) (j:eD h (.slice p n c) cs) (ok:cn cs) (h0 : -1<=a) (q:a < cs.length) :
  Pure prog 98 [.slice p n c,.int .i64 a,.int .i64 b] h (.bool (up cs a b)):=by
 have w:=j.n;refine fD aB func98 Rz Oo rfl ?_;conv=>whnf
 refine eu [0,2,7] [] (λx:Int=>-1<=x/\x < cs.length/\up cs x b=up cs a b) (λx=>(x+1).toNat)
  (λx=>([.v (.slice p n c),.v (.int .i64 b),.v (.int .i64 x)],[],h)) a ⟨h0,q,rfl⟩ rfl ?_
 rintro x ⟨B,f,g⟩;conv=>whnf
 apply aD<;>intro d;all_goals conv=>whnf
 ·apply aD<;>intro e;all_goals conv=>whnf
  ·exact⟨by rw[<-g,fR ok d f];simp[e],rfl⟩
  have i:x.toNat < cs.length:=by omega
  have m:=j.at i;obtain⟨u,z,A,k,v,s,_,o,_,_,_,_⟩:=m;have y:=ok.bO d f;have t:bC cs x=cs[x.toNat].bO:=by simp[bC,i]
  refine ay ?_;conv=>whnf
  refine aP s ?_;conv=>whnf
  refine ld o ?_;conv=>whnf
  refine cT (cs[x.toNat].bO) ⟨O,O,?_⟩ O rfl;rw[<-g,fR ok d f,t];simp[e]
 exact⟨by rw[<-g,ng O],rfl⟩
theorem pE (p:Option Addr) (n c:Nat) (cs:List dH) (a b:Int) (h:Heap) (g:eD h (.slice p n c) cs) (ok:cn cs) (h0 : -1<=a) (q:a < cs.length) (w:0<=b) :
  Pure prog 108 [.slice p n c,.int .i64 a,.int .i64 b] h (.bool (up cs a b)):=by
 have y:=g.n;refine fD aB func108 RG U rfl ?_;conv=>whnf
 refine eu [0,1,2] [] (λx:Int=>-1<=x/\x < cs.length/\up cs x b=up cs a b) (λx=>(x+1).toNat)
  (λx=>([.v (.slice p n c),.v (.int .i64 x),.v (.int .i64 b)],[],h)) a ⟨h0,q,rfl⟩ rfl ?_
 rintro x ⟨C,d,i⟩;conv=>whnf
 apply aD<;>intro o;all_goals conv=>whnf
 ·have f:x.toNat < cs.length:=by omega
  have j:=g.at f;obtain⟨u,A,B,k,v,s,_,m,_,_,_,_⟩:=j;have z:=ok.bO (a:=x) O d;have t:bC cs x=cs[x.toNat].bO:=by simp[bC,f]
  refine ay ?_;conv=>whnf
  refine aP s ?_;conv=>whnf
  refine ld m ?_;conv=>whnf
  refine cT (cs[x.toNat].bO) ⟨O,O,?_⟩ O rfl;rw[<-i,fR ok (a:=x) O d,t];simp[show x≠b by omega]
 refine⟨?_,rfl⟩;rw[<-i];by_cases e:x=b
 ·subst e;rw[fR ok O d];simp
 rw[Bb ok (x.toNat+1) O d O];simp[e]
def bW (sz:Nat) (h:Heap) (v:Value) (xs:List (List Value)) (B:List Nat):Prop :=
 (∀ x∈xs,x.length=sz)/\((v=.slice none 0 0/\xs=[]/\B=[])\/∃ b c rest t,v=.slice (some ⟨b,0,none⟩) xs.length c/\xs.length<=c/\h b=some (.cells (xs.flatten++rest).toArray t (0,0))/\(xs.flatten++rest).length=c*sz/\B=[b])
theorem bQ {sz:Nat}:∀ {xs:List (List Value)},(∀ x∈xs,x.length=sz)->xs.flatten.length=xs.length*sz
 | [],_=>by simp
 | x::xs,h=>by
  simp only[List.flatten_cons,List.length_append,List.length_cons];rw[bQ (λy a=>h y (List.mem_cons_of_mem _ a)),h x List.mem_cons_self,Nat.succ_mul];omega
theorem fK (vs:List Value):∀(a r:List Value),vs.length<=r.length->dU (a++r) a.length vs=a++vs++r.drop vs.length:=by
 induction vs with
 | nil=>intro a r _;simp[dU]
 | cons v vs d =>
  intro a r c;cases r with
  | nil=>simp at c
  | cons y r =>
   simp only[dU];have:HS (a++y::r) a.length v=(a++[v])++r:=by
    rw[rL];simp
   rw[this];have b:=d (a++[v]) r (by simpa using c);simp only[List.length_append,List.length_cons,List.length_nil,Nat.zero_add]at b;rw[b];simp
theorem bK {h:Heap} {b:Nat} {cs:List Value} {t:TypeId} {fz:Nat × Nat} (a:h b=some (.cells cs.toArray t fz)):∀(k off:Nat),off+k<=cs.length->dQ h b off k=some ((cs.drop off).take k)
 | 0,off,_=>by simp[dQ]
 | k+1,off,hl=>by
  have c:off < cs.length:=by omega
  have d:rd h b off=some cs[off]:=by simp[rd,a,c]
  simp only[dQ,d,bK a k (off+1) O];rw[List.drop_eq_getElem_cons c,List.take_succ_cons]
theorem Heap.aR {h0 h:Heap} {b:Nat} {o:Obj} (e:h0.le h) (d:h0 b=none):h0.le (h.set b o):=by
 intro c x a;have f:c≠b:=by rintro rfl;rw[d]at a;cases a
 simp only[Heap.set,f,if_false];exact e c x a
theorem cX {bytes sz:Nat} {zero:List Value} {v:TypeId} {h0 h:Heap} {p:Option Addr} {n cap:Nat} {xs ys:List (List Value)} {B:List Nat} {m:Nat} {vs:List Value} {K:Value->Heap->Prop}
  (z:bW sz h (.slice p n cap) xs B) (C:∀ b∈B,h0 b=none) (hle:h0.le h) (T:vs=ys.flatten) (f:m=ys.length) (L:∀ y∈ys,y.length=sz) (F:dD vs=true) (M:zero.length=sz)
  (D:(xs.length+ys.length)*bytes<=2 ^ 44) (E:xs.length+ys.length<=2 ^ 44)
  (s:∀ P h' B',h0.le h'->bW sz h' P (xs++ys) B'->(∀ b∈B',h0 b=none)->(∀ b,b ∉ B->h b≠none->h' b=h b)->(∀ b∈B',b∈B\/h b=none)->K P h'):App bytes sz zero v h p n cap m vs K:=by
 subst T f;obtain⟨J,z⟩:=z;have q:∀ x∈xs++ys,x.length=sz:=by
  intro x f;rcases List.mem_append.1 f with f|f
  ·exact J x f
  exact L x f
 have S:=bQ L;have w:=bQ J;rw[lS];unfold xl;rcases z with ⟨i,rfl,rfl⟩|⟨b,u,rest,N,i,G,d,R,rfl⟩
 ·simp only[Value.slice.injEq]at i;obtain⟨rfl,rfl,rfl⟩:=i;refine⟨λe=>⟨F,?_⟩,λe=>⟨by simpa using D,by simpa using E,[],⟨rfl,rfl⟩,λb u d G=>?_⟩⟩
  ·have V:ys=[]:=List.eq_nil_of_length_eq_zero O;subst V;exact⟨rfl,s _ _ [] hle ⟨q,.inl ⟨rfl,rfl,rfl⟩⟩ Z (λ_ _ _=>rfl) Z⟩
  refine s _ _ [b] (Heap.aR hle ?_) ⟨q,.inr ⟨b,u,(List.replicate (u-(0+ys.length)) zero).flatten,v,Z,by simpa using G,by simp[Heap.set],?_,rfl⟩⟩ ?_ ?_ ?_
  ·cases j:h0 b with
   | none=>rfl
   | some x=>rw[hle b x j]at d;cases d
  ·rw[List.length_append,qd,M,List.nil_append,S,Nat.zero_add,<-Nat.add_mul];congr 1
   omega
  ·intro a c;simp only[List.mem_singleton]at c;subst c;cases j:h0 a with
   | none=>rfl
   | some x=>rw[hle a x j]at d;cases d
  ·intro a _ o;have:a≠b:=by rintro rfl;exact o d
   simp[Heap.set,this]
  intro a c;simp only[List.mem_singleton]at c;subst c;exact .inr d
 simp only[Value.slice.injEq]at i;obtain⟨rfl,rfl,rfl⟩:=i;have H:∀ b,h b=none->h0 b=none:=by
  intro b d;cases j:h0 b with
  | none=>rfl
  | some x=>rw[hle b x j]at d;cases d
 have X:(xs.flatten++rest).length=xs.length*sz+rest.length:=by rw[List.length_append,w]
 refine⟨λe=>⟨F,(xs.flatten++rest).toArray,N,d,?_,?_⟩,λe=>⟨D,E,xs.flatten,?_,λa A c Q=>?_⟩⟩
 ·have:=Nat.mul_le_mul_right sz e;rw[Nat.add_mul]at this;simp only[List.size_toArray];omega
 ·have I:dU (xs.flatten++rest) (0+xs.length*sz) ys.flatten=(xs++ys).flatten++rest.drop ys.flatten.length:=by
   rw[Nat.zero_add,<-w,fK]
   ·simp
   have:=Nat.mul_le_mul_right sz e;rw[Nat.add_mul]at this;omega
  have W:ys.flatten.length<=rest.length:=by
   have:=Nat.mul_le_mul_right sz e;rw[Nat.add_mul]at this;omega
  refine s _ _ [b] (Heap.aR hle (C b Z)) ⟨q,.inr ⟨b,cap,rest.drop ys.flatten.length,N,Z,by simpa using e,?_,?_,rfl⟩⟩ ?_ ?_ ?_
  ·simp only[Heap.set,if_true];rw[<-I]
  ·rw[<-I,sL];exact R
  ·intro a c;exact C a c
  ·intro a o _;have:a≠b:=by rintro rfl;exact o Z
   simp[Heap.set,this]
  intro a c;exact .inl c
 ·show dQ h b 0 (xs.length*sz)=some xs.flatten;rw[bK d _ _ O,<-w];simp
 refine s _ _ [a] (Heap.aR hle (H a c)) ⟨q,.inr ⟨a,A,(List.replicate (A-(xs.length+ys.length)) zero).flatten,v,Z,by simpa using Q,by simp[Heap.set],?_,rfl⟩⟩ ?_ ?_ ?_
 ·rw[List.length_append,qd,M,bQ q,List.length_append,<-Nat.add_mul];congr 1
  omega
 ·intro t g;simp only[List.mem_singleton]at g;subst g;exact H _ c
 ·intro t _ o;have:t≠a:=by rintro rfl;exact o c
  simp[Heap.set,this]
 intro t g;simp only[List.mem_singleton]at g;subst g;exact .inr c
theorem Fg {h:Heap} {b:Nat}:∀(vs:List Value) (off:Nat),(∀ i v,vs[i]? = some v->rd h b (off+i)=some v)->dQ h b off vs.length=some vs
 | [],off,_=>rfl
 | v::vs,off,hx=>by
  have a:=hx 0 v rfl;have c:=Fg vs (off+1) (λi w d=>by have:=hx (i+1) w (by simpa using d);rw[show off+1+i=off+(i+1)by omega];exact this);simp only[List.length_cons,dQ];rw[Nat.add_zero]at a;rw[a,c]
def bP (x:Int):List Value:=[.int .i64 x]
theorem dy:∀ l:List Int,(l.map bP).flatten=l.map (.int .i64)
 | []=>rfl
 | x::l=>by simp[bP,dy l]
theorem di:∀ l:List Int,dD (l.map (.int .i64))=true
 | []=>rfl
 | x::l=>by simp[dD,jF,di l]
theorem nh {h:Heap} {p:Option Addr} {n c:Nat} {l:List Int} {K:List Value->Prop} (o:cR h (.slice p n c) l) (d:K (l.map (.int .i64))):No h p (n*1) K:=by
 obtain⟨_,u,t,a,_,g⟩:=o;simp only[Value.slice.injEq]at a;obtain⟨rfl,rfl,rfl⟩:=a;rw[p0];unfold AN;rcases g with rfl|⟨b,f,rfl,q⟩
 ·exact .inl ⟨.inr Z,d⟩
 refine .inr ⟨b,f,_,rfl,?_,d⟩;have:=Fg (h:=h) (b:=b) (l.map (.int .i64)) f (λi v e=>by
  simp only[List.getElem?_map,Option.map_eq_some_iff]at e;obtain⟨x,s,rfl⟩:=e;obtain⟨w,j,m,_⟩:=q i x s;subst m;have:=aM j (i:=0) rfl;simpa using this)
 simpa using this
abbrev dI (h:Heap) (v:Value) (l:List Int) (B:List Nat):Prop:=bW 1 h v (l.map bP) B
theorem bW.form {sz:Nat} {h:Heap} {v:Value} {xs:List (List Value)} {B:List Nat} (b:bW sz h v xs B):∃ p c,v=.slice p xs.length c/\xs.length<=c:=by
 obtain⟨_,⟨rfl,rfl,_⟩|⟨d,c,rest,t,rfl,a,_⟩⟩:=b
 ·exact⟨none,0,rfl,Nat.le_refl _⟩
 exact⟨_,c,rfl,a⟩
def gx (cs:List dH) (c:Int):List Int:=match cs[c.toNat]? with
 | some x=>x.fields
 | none=>[]
def zf (cs:List dH):Nat->Int->List Int
 | 0,_=>[]
 | k+1,c=>if c<=0 then []else zf cs k (bC cs c)++gx cs c
def cP (cs:List dH) (c:Int):List Int:=zf cs c.toNat c
theorem zg {cs:List dH} {c:Int} (h:c<=0) (k:Nat):zf cs k c=[]:=by
 cases k with
 | zero=>rfl
 | succ k=>rw[zf,if_pos h]
theorem ep {cs:List dH} {c:Int} (h:c<=0):cP cs c=[]:=zg h _
theorem uv {cs:List dH} (ok:cn cs):∀(k:Nat) (c:Int),c < cs.length->c.toNat<=k->zf cs k c=cP cs c
 | 0,c,_,h=>by rw[ep O];rfl
 | k+1,c,hl,h=>by
  by_cases b:c<=0
  ·rw[zg b,ep b]
  have e:=ok.bO (a:=c) O hl;unfold cP;obtain⟨j,d⟩:∃ j,c.toNat=j+1:=⟨c.toNat-1,O⟩
  rw[d,zf,zf,if_neg b,if_neg b,uv ok k _ O O,uv ok j _ O O]
theorem jB {cs:List dH} (ok:cn cs) {c:Int} (h0:0 < c) (d:c < cs.length):cP cs c=cP cs (bC cs c)++gx cs c:=by
 have e:=ok.bO (a:=c) O d;conv=>lhs;unfold cP
 obtain⟨j,b⟩:∃ j,c.toNat=j+1:=⟨c.toNat-1,O⟩
 rw[b,zf,if_neg O,uv ok j _ O O]
theorem qk {cs:List dH} (ok:cn cs):∀(k:Nat) (c:Int),c < cs.length->c.toNat<=k->(cP cs c).length<=2*k
 | 0,c,_,h=>by rw[ep O];simp
 | k+1,c,hl,h=>by
  by_cases d:c<=0
  ·rw[ep d];simp
  have f:=ok.bO (a:=c) O hl;have g:=qk ok k (bC cs c) O O;rw[jB ok O hl,List.length_append];have b:c.toNat < cs.length:=by omega
  have e:=(ok.2.2 c.toNat b).2.2.2.2;have:(gx cs c).length<=2:=by simp only[gx,b,List.getElem?_eq_getElem];exact e
  omega
theorem iG:∀(k:Nat) (p:Option Addr) (n c:Nat) (cs:List dH) (x:Int) (h:Heap),eD h (.slice p n c) cs->cn cs->0<=x->x < cs.length->x.toNat < k ->
  bI prog 121 [.slice p n c,.int .i64 x] h λv h'=>h.le h'/\∃ B,dI h' v (cP cs x) B/\∀ b∈B,h b=none
 | 0,_,_,_,_,_,_,_,_,_,_,hk=>by omega
 | k+1,p,n,c,cs,x,h,hr,ok,h0,hl,hk=>by
  have N:=hr.n;refine bT aB func121 RT U rfl ?_;conv=>whnf
  apply aD<;>intro A;all_goals conv=>whnf
  ·exact⟨Heap.le_refl h,[],⟨by rw[ep O];simp,.inl ⟨rfl,by rw[ep O];rfl,rfl⟩⟩,Z⟩
  have a:x.toNat < cs.length:=by omega
  have o:=hr.at a;obtain⟨E,R,T,Q,G,i,_,q,s,_,t,u⟩:=o;have P:=ok.bO h0 hl;have d:bC cs x=cs[x.toNat].bO:=by simp[bC,a]
  refine ay ?_;conv=>whnf
  refine aP i ?_;conv=>whnf
  refine ay ?_;conv=>whnf
  refine aP i ?_;conv=>whnf
  refine ld s ?_;conv=>whnf
  refine ld q ?_;conv=>whnf
  have j:=iG k p n c cs (bC cs x) h hr ok (by
   have:=ok.2.1;have e:=ok.2.2 x.toNat a;rw[d];rcases Nat.lt_trichotomy x.toNat 1 with g|g|g
   ·omega
   ·rw[(e.2.2.1 g).1];omega
   exact(e.2.2.2.1 g).1) O O
  rw[d]at j;refine cO j ?_;rintro v h' ⟨hle,B,f,C⟩;refine⟨hle,?_⟩;obtain⟨S,F,rfl,K⟩:=f.form;conv=>whnf
  have D:=qk ok x.toNat (bC cs x) O O;have M:cs[x.toNat].fields.length<=2:=(ok.2.2 x.toNat a).2.2.2.2;rw[d]at D;have L:=ok.2.1;refine nh (t.le hle) ?_;conv=>whnf
  refine cX (ys:=cs[x.toNat].fields.map bP) f C hle (dy _).symm (by simp[u]) (by simp[bP]) (di _) rfl (by simp;omega) (by simp;omega) ?_;intro V J m w y z H I;conv=>whnf
  refine⟨w,m,?_,z⟩;rw[jB ok O hl,d];unfold dI;rw[List.map_append];simpa [gx,a]using y
theorem iy:∀(k:Nat) (p:Option Addr) (n c:Nat) (cs:List dH) (x:Int) (h:Heap),eD h (.slice p n c) cs->cn cs->0<=x->x < cs.length->x.toNat < k ->
  bI prog 50 [.slice p n c,.int .i64 x] h λv h'=>h.le h'/\∃ B,dI h' v (cP cs x) B/\∀ b∈B,h b=none
 | 0,_,_,_,_,_,_,_,_,_,_,hk=>by omega
 | k+1,p,n,c,cs,x,h,hr,ok,h0,hl,hk=>by
  have P:=hr.n;refine bT aB func50 Y0 U rfl ?_;conv=>whnf
  apply aD<;>intro C;all_goals conv=>whnf
  ·refine new λb e=>?_;conv=>whnf
   refine⟨Heap.xF _ e,[b],⟨by rw[ep O];simp,.inr ⟨b,0,[],3,by rw[ep O];rfl,by rw[ep O];simp,by rw[ep O];simp[Heap.set,p7],by rw[ep O];simp,rfl⟩⟩,by simpa using e⟩
  have a:x.toNat < cs.length:=by omega
  have q:=hr.at a;obtain⟨F,S,V,R,H,j,_,s,t,_,u,w⟩:=q;have Q:=ok.bO h0 hl;have d:bC cs x=cs[x.toNat].bO:=by simp[bC,a]
  refine ay ?_;conv=>whnf
  refine aP j ?_;conv=>whnf
  refine ay ?_;conv=>whnf
  refine aP j ?_;conv=>whnf
  refine ld t ?_;conv=>whnf
  refine ld s ?_;conv=>whnf
  have m:=iy k p n c cs (bC cs x) h hr ok (by
   have:=ok.2.1;have f:=ok.2.2 x.toNat a;rw[d];rcases Nat.lt_trichotomy x.toNat 1 with g|g|g
   ·omega
   ·rw[(f.2.2.1 g).1];omega
   exact(f.2.2.2.1 g).1) O O
  rw[d]at m;refine cO m ?_;rintro v h' ⟨hle,B,i,D⟩;refine⟨hle,?_⟩;obtain⟨T,G,rfl,L⟩:=i.form;conv=>whnf
  have E:=qk ok x.toNat (bC cs x) O O;have N:cs[x.toNat].fields.length<=2:=(ok.2.2 x.toNat a).2.2.2.2;rw[d]at E;have M:=ok.2.1;refine nh (u.le hle) ?_;conv=>whnf
  refine cX (ys:=cs[x.toNat].fields.map bP) i D hle (dy _).symm (by simp[w]) (by simp[bP]) (di _) rfl (by simp;omega) (by simp;omega) ?_;intro W K o y z A I J;conv=>whnf
  refine⟨y,o,?_,A⟩;rw[jB ok O hl,d];unfold dI;rw[List.map_append];simpa [gx,a]using z
theorem oh (p:Option Addr) (n c:Nat) (t:Int) (h:Heap) (e:n<=140737488351232):Pure prog 151 [.slice p n c,.int .i64 t] h (tf (cL n t)):=by
 refine fD aB func151 Sf U rfl ?_;conv=>whnf
 apply aD<;>intro a;all_goals conv=>whnf
 ·exact⟨by rw[ei];unfold cL;omega,rfl⟩
 apply aD<;>intro b;all_goals conv=>whnf
 ·exact⟨by rw[ei];unfold cL;omega,rfl⟩
 apply aD<;>intro d;all_goals conv=>whnf
 ·exact⟨by rw[ei];unfold cL;omega,rfl⟩
 refine av ?_;conv=>whnf
 refine av ?_;conv=>whnf
 refine ax (de _ _ _ _) ?_;conv=>whnf
 exact⟨(vR (by unfold cL;omega)).symm,rfl⟩
theorem DC (p:Option Addr) (n c:Nat) (cs:List dH) (i:Nat) (h:Heap) (t:eD h (.slice p n c) cs) (G:i < cs.length) :
  Pure prog 110 [.slice p n c,.int .i64 i] h (tf (uu cs.length i cs[i])):=by
 have f:n<=140737488351232:=by obtain⟨_,_,v,_,g⟩:=t.len;injection v with _ v _;omega
 obtain rfl:=t.n;have B:=t.at G;obtain⟨P,W,M,k,A,J,C,Q,R,S,j,u⟩:=B;have T:=j.1;refine fD aB func110 RI U rfl ?_;conv=>whnf
 refine ay ?_;conv=>whnf
 refine aP J ?_;conv=>whnf
 refine dh C ?_;conv=>whnf
 refine eu [0,1,5,6] [5] (λm:Nat=>m<=k/\∀ l (f:l < cs[i].fields.length),l < m->cL cs.length cs[i].fields[l]) (λm=>k-m)
  (λm=>([.v (.slice p cs.length c),.v (.int .i64 i),.l 5 0,.v (.int .i64 m)],[some [.int .i64 cs[i].bO,.slice M k A]],h)) 0 ⟨O,λl f h=>O⟩ rfl ?_
 rintro m ⟨V,y⟩;conv=>whnf
 apply aD<;>intro E;all_goals conv=>whnf
 ·have I:m < cs[i].fields.length:=by omega
  have o:=j.get I;obtain⟨z,L,N,s,f1,f2,f3⟩:=o;subst f2;refine ay ?_;conv=>whnf
  refine aP s ?_;conv=>whnf
  refine ld (aM f1 (i:=0) rfl) ?_;conv=>whnf
  refine ax (oh _ _ _ _ _ f) ?_;conv=>whnf
  apply aU<;>intro g;all_goals conv=>whnf
  ·exact⟨by rw[cS];intro b;exact g (b.1 _ (List.getElem_mem _)),rfl⟩
  refine av ?_;conv=>whnf
  refine cT (m+1) ⟨O,λl f H=>?_⟩ O rfl;rcases Nat.lt_succ_iff_lt_or_eq.1 H with F|rfl
  ·exact y l f F
  exact g
 have q:fQ cs.length cs[i].fields:=by
  intro X K;obtain⟨l,f,rfl⟩:=List.mem_iff_getElem.1 K;exact y l f O
 apply aD<;>intro g;all_goals conv=>whnf
 ·apply aD<;>intro b;all_goals conv=>whnf
  ·refine⟨(vR ⟨λa=>?_,λa=>?_⟩).symm,rfl⟩
   ·have:=(a.2.1 O).2;simp[u,this]
   have w:cs[i].fields=[]:=List.eq_nil_of_length_eq_zero O;exact⟨q,λ_=>⟨b,w⟩,λ_=>O,λ_=>O,by simp[w]⟩
  exact⟨by rw[cS];intro a;exact b (a.2.1 O).1,rfl⟩
 apply aD<;>intro b;all_goals conv=>whnf
 ·apply aD<;>intro a;all_goals conv=>whnf
  ·apply aD<;>intro d;all_goals conv=>whnf
   ·have D:0 < cs[i].fields.length:=by omega
    have o:=j.get D;obtain⟨z,L,N,s,f1,f2,f3⟩:=o;subst f2;refine ay ?_;conv=>whnf
    refine aP s ?_;conv=>whnf
    refine ld (aM f1 (i:=0) rfl) ?_;conv=>whnf
    refine⟨(vR ⟨λe=>?_,λe=>?_⟩).symm,rfl⟩
    ·have:=(e.2.2.1 O).2;simp[this]
    have x:cs[i].fields=[1]:=Ff O e;exact⟨q,λ_=>O,λ_=>⟨a,x⟩,λ_=>O,by simp[x]⟩
   exact⟨by rw[cS];intro e;refine d ?_;have:=(e.2.2.1 O).2;simp[u,this],rfl⟩
  exact⟨by rw[cS];intro e;exact a (e.2.2.1 O).1,rfl⟩
 refine av ?_;conv=>whnf
 refine ax (de _ _ _ _) ?_;conv=>whnf
 apply aD<;>intro a;all_goals conv=>whnf
 ·refine⟨(vR ⟨λd=>?_,λd=>?_⟩).symm,rfl⟩
  ·have:=d.2.2.2.2;omega
  exact⟨q,λ_=>O,λ_=>O,λ_=>O,O⟩
 exact⟨by rw[cS];intro d;refine a ?_;have:=d.2.2.2.1 O;omega,rfl⟩
theorem mg (p:Option Addr) (n c:Nat) (cs:List dH) (h:Heap) (e:eD h (.slice p n c) cs):Pure prog 46 [.slice p n c] h (tf (cn cs)):=by
 have v:n<=140737488351232:=by obtain⟨_,_,g,_,d⟩:=e.len;injection g with _ g _;omega
 obtain rfl:=e.n;refine fD aB func46 YW U rfl ?_;conv=>whnf
 refine ax (de _ _ _ _) ?_;conv=>whnf
 apply aU<;>intro o;all_goals conv=>whnf
 ·exact⟨by rw[cS];rintro⟨d,b,_⟩;omega,rfl⟩
 refine eu [0,3] [] (λi:Nat=>i<=cs.length/\∀ j (a:j < cs.length),j < i->uu cs.length j cs[j]) (λi=>cs.length-i)
  (λi=>([.v (.slice p cs.length c),.v (.int .i64 i)],[],h)) 0 ⟨O,λj a h=>O⟩ rfl ?_
 rintro i ⟨u,f⟩;conv=>whnf
 apply aD<;>intro d;all_goals conv=>whnf
 ·have m:i < cs.length:=by omega
  refine ax (DC p _ c cs i h e m) ?_;conv=>whnf
  apply aU<;>intro b;all_goals conv=>whnf
  ·exact⟨by rw[cS];rintro⟨_,_,s⟩;exact b (s i m),rfl⟩
  refine av ?_;conv=>whnf
  refine cT (i+1) ⟨O,λj a t=>?_⟩ O rfl;rcases Nat.lt_succ_iff_lt_or_eq.1 t with q|rfl
  ·exact f j a q
  exact b
 exact⟨by rw[ei];exact⟨O,O,λj a=>f j a O⟩,rfl⟩
def gO (n t:Int):Prop:=(0<=t/\t<=4)\/(8<=t/\t < 8+n)
theorem Fh {n t:Int} (h:¬gO n t):dY n t=.nilIface:=by
 unfold gO at h;simp only[dY];(repeat' split)<;>first|rfl|(exfalso;omega)
theorem DD {n t:Int} (h:gO n t):∃ T x,dY n t=.iface T x:=by
 unfold gO at h;simp only[dY];(repeat' split)<;>first|exact⟨_,_,rfl⟩|(exfalso;omega)
theorem zh (n t:Int) (h:Heap) (b:0<=n/\n<=140737488351232) (c:cH t):∃ v,Pure prog 153 [.int .i64 n,.int .i64 t] h v/\((¬gO n t/\v=.nilIface)\/(gO n t/\∃ T x,v=.iface T x)):=by
 refine⟨_,qj n t h b c,?_⟩;by_cases a:gO n t
 ·exact .inr ⟨a,DD a⟩
 exact .inl ⟨a,Fh a⟩
theorem zi (p:Option Addr) (n c:Nat) (cs:List dH) (t:Int) (h:Heap) (e:eD h (.slice p n c) cs):Pure prog 152 [.slice p n c,.int .i64 t] h (tf (cn cs/\gO cs.length t)):=by
 have j:n<=140737488351232:=by obtain⟨_,_,f,_,b⟩:=e.len;injection f with _ f _;omega
 obtain rfl:=e.n;refine fD aB func152 Sg U rfl ?_;conv=>whnf
 refine ax (mg p _ c cs h e) ?_;conv=>whnf
 apply aD<;>intro a;all_goals conv=>whnf
 ·apply aD<;>intro b;all_goals conv=>whnf
  ·exact⟨by rw[ei];exact⟨a,by unfold gO;omega⟩,rfl⟩
  apply aD<;>intro g;all_goals conv=>whnf
  ·exact⟨by rw[ei];exact⟨a,by unfold gO;omega⟩,rfl⟩
  refine ax (oh p _ c t h j) ?_;conv=>whnf
  refine⟨?_,rfl⟩;by_cases d:cL cs.length t
  ·show tf _=_;rw[ei d,ei];refine⟨a,?_⟩;unfold cL at d;unfold gO;omega
  show tf _=_;rw[cS d,cS];rintro⟨_,i⟩;unfold cL at d;unfold gO at i;omega
 exact⟨by rw[cS];exact λb=>a b.1,rfl⟩
def rR (n:Nat) (a:Int) (s:dF):Prop :=
 (s.told=false/\s.locals=[]/\s.stack=[])\/(s.told=true/\(s.locals.length:Int)=a/\s.stack.length<=4/\(∀ t∈s.locals,gO n t)/\∀ t∈s.stack,t≠0/\gO n t)
theorem DE (p:Option Addr) (n c:Nat) (N:Int) (s:dF) (l k:Value) (h:Heap) (M:n<=140737488351232) (u:cR h l s.locals) (v:cR h k s.stack) :
  Pure prog 119 [.slice p n c,.int .i64 N,.agg #[.bool s.told,l,k]] h (tf (rR n N s)):=by
 obtain⟨X,d,b⟩:=s;simp only at u v;have b1:=u.1;have b2:=v.1;have f1:=u.len;have f2:=v.len;obtain⟨P,I,rfl,_,_⟩:=f1;obtain⟨Q,J,rfl,_,_⟩:=f2;refine fD aB func119 RR U rfl ?_;conv=>whnf
 cases X with
 | false =>
  conv=>whnf
  apply aD<;>intro g;all_goals conv=>whnf
  ·refine⟨(vR ⟨λq=>?_,λq=>?_⟩).symm,rfl⟩
   ·rcases q with ⟨_,_,a⟩|⟨a,_⟩
    ·simp only at a;simp[a]
    cases a
   exact .inl ⟨rfl,List.eq_nil_of_length_eq_zero (by simpa using g),List.eq_nil_of_length_eq_zero (by simpa using q)⟩
  refine⟨?_,rfl⟩;rw[cS];rintro(⟨_,a,_⟩|⟨a,_⟩)
  ·simp only at a;simp[a]at g
  cases a
 | true =>
  conv=>whnf
  apply aU<;>intro g;all_goals conv=>whnf
  ·refine⟨?_,rfl⟩;rw[cS];rintro(⟨a,_⟩|⟨_,a,_⟩)
   ·cases a
   exact g a
  apply aD<;>intro q;all_goals conv=>whnf
  ·refine⟨?_,rfl⟩;rw[cS];rintro(⟨a,_⟩|⟨_,_,a,_⟩)
   ·cases a
   simp only at a;omega
  refine eu [0,5,36,37,38] [5] (λm:Nat=>m<=d.length/\∀ i (e:i < d.length),i < m->gO n d[i]) (λm=>d.length-m)
   (λm=>([.v (.slice p n c),.l 5 0,.v (.slice P d.length I),.v (.int .i64 d.length),.v (.int .i64 m)],[some [.bool true,.slice P d.length I,.slice Q b.length J]],h)) 0 ⟨O,λl M h=>O⟩ rfl ?_
  rintro m ⟨V,K⟩;conv=>whnf
  apply aD<;>intro a;all_goals conv=>whnf
  ·have G:m < d.length:=by omega
   have z:=u.get G;obtain⟨R,W,vs,H,A,B,C⟩:=z;subst B;refine ay ?_;conv=>whnf
   refine aP H ?_;conv=>whnf
   refine ld (aM A (i:=0) rfl) ?_;conv=>whnf
   have f:=zh n d[m] h O C;obtain⟨Y,f,⟨o,rfl⟩|⟨o,T,aa,rfl⟩⟩:=f
   ·refine ax f ?_;conv=>whnf
    refine fI (r:=.bool true) rfl rfl (λw=>rfl) (λw=>rfl) ?_;conv=>whnf
    refine⟨?_,rfl⟩;rw[cS];rintro(⟨t,_⟩|⟨_,_,_,t,_⟩)
    ·cases t
    exact o (t _ (List.getElem_mem _))
   refine ax f ?_;conv=>whnf
   refine fI (r:=.bool false) rfl rfl (λw=>rfl) (λw=>rfl) ?_;conv=>whnf
   refine av ?_;conv=>whnf
   refine cT (m+1) ⟨O,λi e F=>?_⟩ O rfl;rcases Nat.lt_succ_iff_lt_or_eq.1 F with D|rfl
   ·exact K i e D
   exact o
  have S:∀ y∈d,gO n y:=by
   intro y x;obtain⟨i,e,rfl⟩:=List.mem_iff_getElem.1 x;exact K i e O
  refine eu [0,49,50,51] [] (λm:Nat=>m<=b.length/\∀ i (e:i < b.length),i < m->b[i]≠0/\gO n b[i]) (λm=>b.length-m)
   (λm=>([.v (.slice p n c),.v (.slice Q b.length J),.v (.int .i64 b.length),.v (.int .i64 m)],[],h)) 0 ⟨O,λl M h=>O⟩ rfl ?_
  rintro m ⟨V,L⟩;conv=>whnf
  apply aD<;>intro t;all_goals conv=>whnf
  ·have G:m < b.length:=by omega
   have z:=v.get G;obtain⟨R,W,vs,H,A,B,C⟩:=z;subst B;refine ay ?_;conv=>whnf
   refine aP H ?_;conv=>whnf
   refine ld (aM A (i:=0) rfl) ?_;conv=>whnf
   apply aD<;>intro E;all_goals conv=>whnf
   ·refine⟨?_,rfl⟩;rw[cS];rintro(⟨j,_⟩|⟨_,_,_,_,j⟩)
    ·cases j
    exact(j _ (List.getElem_mem _)).1 E
   have f:=zh n b[m] h O C;obtain⟨Y,f,⟨o,rfl⟩|⟨o,T,aa,rfl⟩⟩:=f
   ·refine ax f ?_;conv=>whnf
    refine fI (r:=.bool true) rfl rfl (λw=>rfl) (λw=>rfl) ?_;conv=>whnf
    refine⟨?_,rfl⟩;rw[cS];rintro(⟨j,_⟩|⟨_,_,_,_,j⟩)
    ·cases j
    exact o (j _ (List.getElem_mem _)).2
   refine ax f ?_;conv=>whnf
   refine fI (r:=.bool false) rfl rfl (λw=>rfl) (λw=>rfl) ?_;conv=>whnf
   refine av ?_;conv=>whnf
   refine cT (m+1) ⟨O,λi e F=>?_⟩ O rfl;rcases Nat.lt_succ_iff_lt_or_eq.1 F with D|rfl
   ·exact L i e D
   exact⟨E,o⟩
  refine⟨?_,rfl⟩;rw[ei];refine .inr ⟨rfl,g,by simp only;omega,S,λy x=>?_⟩;change y∈b at x
  obtain⟨i,e,rfl⟩:=List.mem_iff_getElem.1 x;exact L i e O
theorem Bd (p:Option Addr) (n c:Nat) (cs:List dH) (L:Int) (s:dF) (l k:Value) (h:Heap) (y:eD h (.slice p n c) cs) (w:cR h l s.locals) (o:cR h k s.stack) :
  Pure prog 112 [.slice p n c,.int .i64 L,.agg #[.bool s.told,l,k]] h (tf (cn cs/\rR cs.length L s)):=by
 obtain rfl:=y.n;obtain⟨W,e,d⟩:=s;simp only at w o;have Y:=w.1;have b2:=o.1;have f1:=w.len;have f2:=o.len;obtain⟨M,H,rfl,_,_⟩:=f1;obtain⟨N,I,rfl,_,_⟩:=f2;refine fD aB func112 RK U rfl ?_;conv=>whnf
 refine ax (mg p _ c cs h y) ?_;conv=>whnf
 apply aU<;>intro q;all_goals conv=>whnf
 ·exact⟨by rw[cS];exact λo=>q o.1,rfl⟩
 cases W with
 | false =>
  conv=>whnf
  apply aD<;>intro f;all_goals conv=>whnf
  ·refine⟨(vR ⟨λt=>?_,λt=>?_⟩).symm,rfl⟩
   ·rcases t.2 with ⟨_,_,a⟩|⟨a,_⟩
    ·simp only at a;simp[a]
    cases a
   exact⟨q,.inl ⟨rfl,List.eq_nil_of_length_eq_zero (by simpa using f),List.eq_nil_of_length_eq_zero (by simpa using t)⟩⟩
  refine⟨?_,rfl⟩;rw[cS];rintro⟨_,⟨_,a,_⟩|⟨a,_⟩⟩
  ·simp only at a;simp[a]at f
  cases a
 | true =>
  conv=>whnf
  apply aU<;>intro f;all_goals conv=>whnf
  ·refine⟨?_,rfl⟩;rw[cS];rintro⟨_,⟨a,_⟩|⟨_,a,_⟩⟩
   ·cases a
   exact f a
  apply aD<;>intro t;all_goals conv=>whnf
  ·refine⟨?_,rfl⟩;rw[cS];rintro⟨_,⟨a,_⟩|⟨_,_,a,_⟩⟩
   ·cases a
   simp only at a;omega
  refine eu [0,5,7] [5] (λm:Nat=>m<=e.length/\∀ i (b:i < e.length),i < m->gO cs.length e[i]) (λm=>e.length-m)
   (λm=>([.v (.slice p cs.length c),.l 5 0,.v (.int .i64 m)],[some [.bool true,.slice M e.length H,.slice N d.length I]],h)) 0 ⟨O,λl S h=>O⟩ rfl ?_
  rintro m ⟨T,J⟩;conv=>whnf
  apply aD<;>intro a;all_goals conv=>whnf
  ·have G:m < e.length:=by omega
   have B:=w.get G;obtain⟨P,V,X,x,v,C,Q⟩:=B;subst C;refine ay ?_;conv=>whnf
   refine aP x ?_;conv=>whnf
   refine ld (aM v (i:=0) rfl) ?_;conv=>whnf
   refine ax (zi p _ c cs _ h y) ?_;conv=>whnf
   apply aU<;>intro u;all_goals conv=>whnf
   ·refine⟨?_,rfl⟩;rw[cS];rintro⟨_,⟨g,_⟩|⟨_,_,_,g,_⟩⟩
    ·cases g
    exact u ⟨q,g _ (List.getElem_mem _)⟩
   refine av ?_;conv=>whnf
   refine cT (m+1) ⟨O,λi b F=>?_⟩ O rfl;rcases Nat.lt_succ_iff_lt_or_eq.1 F with D|rfl
   ·exact J i b D
   exact u.2
  have R:∀ A∈e,gO cs.length A:=by
   intro A z;obtain⟨i,b,rfl⟩:=List.mem_iff_getElem.1 z;exact J i b O
  refine eu [0,5,8] [5] (λm:Nat=>m<=d.length/\∀ i (b:i < d.length),i < m->d[i]≠0/\gO cs.length d[i]) (λm=>d.length-m)
   (λm=>([.v (.slice p cs.length c),.l 5 0,.v (.int .i64 m)],[some [.bool true,.slice M e.length H,.slice N d.length I]],h)) 0 ⟨O,λl S h=>O⟩ rfl ?_
  rintro m ⟨T,K⟩;conv=>whnf
  apply aD<;>intro u;all_goals conv=>whnf
  ·have G:m < d.length:=by omega
   have B:=o.get G;obtain⟨P,V,X,x,v,C,Q⟩:=B;subst C;refine ay ?_;conv=>whnf
   refine aP x ?_;conv=>whnf
   refine ld (aM v (i:=0) rfl) ?_;conv=>whnf
   refine ax (zi p _ c cs _ h y) ?_;conv=>whnf
   apply aU<;>intro g;all_goals conv=>whnf
   ·refine⟨?_,rfl⟩;rw[cS];rintro⟨_,⟨j,_⟩|⟨_,_,_,_,j⟩⟩
    ·cases j
    exact g ⟨q,(j _ (List.getElem_mem _)).2⟩
   refine ay ?_;conv=>whnf
   refine aP x ?_;conv=>whnf
   refine ld (aM v (i:=0) rfl) ?_;conv=>whnf
   apply aD<;>intro j;all_goals conv=>whnf
   ·refine⟨?_,rfl⟩;rw[cS];rintro⟨_,⟨E,_⟩|⟨_,_,_,_,E⟩⟩
    ·cases E
    exact(E _ (List.getElem_mem _)).1 j
   refine av ?_;conv=>whnf
   refine cT (m+1) ⟨O,λi b F=>?_⟩ O rfl;rcases Nat.lt_succ_iff_lt_or_eq.1 F with D|rfl
   ·exact K i b D
   exact⟨j,g.2⟩
  refine⟨?_,rfl⟩;rw[ei];refine⟨q,.inr ⟨rfl,f,by simp only;omega,R,λA z=>?_⟩⟩;change A∈d at z
  obtain⟨i,b,rfl⟩:=List.mem_iff_getElem.1 z;exact K i b O
def cj (m:cu):List Int:=(if 0<=m.cls then [8+m.cls]else [])++m.args
theorem Iv (vs:List Value) (m:cu) (h:Heap) (t:dO h vs m) (H:8+m.cls<=9223372036854775807) (J:m.args.length<=1000000) :
  bI prog 117 [.agg ⟨vs⟩] h λv h'=>h.le h'/\∃ B,dI h' v (cj m) B/\∀ b∈B,h b=none:=by
 obtain⟨z,A,M,k,rfl,G,_,_,_,c,_⟩:=t;have o:=c.len;obtain⟨L,D,rfl,_,_⟩:=o;refine bT aB func117 RP U rfl ?_;conv=>whnf
 apply aD<;>intro d;all_goals conv=>whnf
 ·refine av ?_;conv=>whnf
  refine cX (h0:=h) (xs:=[]) (ys:=[bP (8+m.cls)]) (B:=[]) ⟨Z,.inl ⟨rfl,rfl,rfl⟩⟩ Z (Heap.le_refl h) rfl rfl (by simp[bP]) rfl rfl Z Z ?_;intro N h' y i j q E F;have p:=j.form;obtain⟨K,C,rfl,I⟩:=p;conv=>whnf
  refine nh (c.le i) ?_;conv=>whnf
  refine cX (ys:=m.args.map bP) j q i (dy _).symm Z (by simp[bP]) (di _) rfl (by simp;omega) (by simp;omega) ?_;intro x s a e f g u w;conv=>whnf
  refine⟨e,a,?_,g⟩;unfold dI cj;rw[if_pos d];simpa using f
 refine nh c ?_;conv=>whnf
 refine cX (h0:=h) (xs:=[]) (ys:=m.args.map bP) (B:=[]) ⟨Z,.inl ⟨rfl,rfl,rfl⟩⟩ Z (Heap.le_refl h) (dy _).symm Z (by simp[bP]) (di _) rfl (by simp;omega) (by simp;omega) ?_;intro x s a e f g u w;conv=>whnf
 refine⟨e,a,?_,g⟩;unfold dI cj;rw[if_neg d];simpa using f
def eW (n:Nat) (m:cu):Prop :=
 ((m.cls = -1/\m.er=0)\/(0 < m.cls/\m.cls < n/\0<=m.er/\m.er < 3))/\m.args.length<=2/\cL n m.out/\fQ n m.args/\m.locals<=3/\(cj m).length<=m.locals
theorem Fi (v vs:List Value) (u:aS) (m:cu) (h:Heap) (X:cZ h v u) (s:dO h vs m):Pure prog 53 [.agg ⟨v⟩,.agg ⟨vs⟩] h (tf (eW u.aq.length m)):=by
 have Q:=s;obtain⟨ab,ad,ae,k,rfl,h1,h2,I,h4,o,J,K,L⟩:=s;obtain⟨cv,mv,rfl,p,S⟩:=X;have P:=p.1;have f:=p.len;obtain⟨Y,A,rfl,_,_⟩:=f;have f:=o.len;obtain⟨t,g,rfl,_,_⟩:=f;have f:=S.len;obtain⟨p2,w,rfl,_,_⟩:=f;have f:=J.len;obtain⟨p3,x,rfl,_,_⟩:=f;have f:=K.len;obtain⟨p4,y,rfl,_,_⟩:=f;have f:=L.len;obtain⟨p5,z,rfl,_,_⟩:=f;have d:¬eW u.aq.length m->.bool false=tf (eW u.aq.length m):=λa=>(cS a).symm;refine Il aB func53 Y3 U rfl ?_;conv=>whnf
 repeat' ((first
  | apply aD<;>intro _
  | apply aU<;>intro _
  | refine ax (kR _ _ _ _ _) ?_)<;>conv=>whnf)
 all_goals first
  | (exfalso;omega)
  | exact⟨d (by intro a;have hx1:=a.1;have hx2:=a.2.1;omega),Heap.le_refl h⟩
  | skip
 all_goals
  refine ax (m9 _ _ _ O I) ?_;conv=>whnf
  apply aU<;>intro e;all_goals conv=>whnf
  ·exact⟨d (λa=>e a.2.2.1),Heap.le_refl h⟩
  refine eu [2,3,48,49,50] [2,3] (λi:Nat=>i<=m.args.length/\∀ j (c:j < m.args.length),j < i->cL u.aq.length m.args[j]) (λi=>m.args.length-i)
   (λi=>([.l 2 0,.l 3 0,.v (.slice t m.args.length g),.v (.int .i64 m.args.length),.v (.int .i64 i)],
    [some [.slice Y u.aq.length A,.slice p2 u.methods.length w],some [.int .i64 m.cls,.int .i64 m.er,.slice t m.args.length g,.int .i64 m.out,.int .i64 m.locals,.slice p3 m.code.length x,.slice p4 m.aT.length y,.slice p5 m.catches.length z]],h)) 0 ⟨O,λl P h=>O⟩ rfl ?_
  rintro i ⟨hi,q⟩;conv=>whnf
  apply aD<;>intro G;all_goals conv=>whnf
  ·have R:i < m.args.length:=by omega
   have F:=o.get R;obtain⟨bb,off,vs,V,B,C,D⟩:=F;subst C;refine ay ?_;conv=>whnf
   refine aP V ?_;conv=>whnf
   refine ld (aM B (i:=0) rfl) ?_;conv=>whnf
   refine ax (m9 _ _ _ O D) ?_;conv=>whnf
   apply aU<;>intro b;all_goals conv=>whnf
   ·exact⟨d (λa=>b (a.2.2.2.1 _ (List.getElem_mem _))),Heap.le_refl h⟩
   refine av ?_;conv=>whnf
   refine cT (i+1) ⟨O,λj c N=>?_⟩ O rfl;rcases Nat.lt_succ_iff_lt_or_eq.1 N with H|rfl
   ·exact q j c H
   exact b
  have M:fQ u.aq.length m.args:=by
   intro af W;obtain⟨j,c,rfl⟩:=List.mem_iff_getElem.1 W;exact q j c O
  apply aD<;>intro b;all_goals conv=>whnf
  ·refine cO (Iv _ m h Q O O) ?_;rintro ag h' ⟨hle,aa,T,hB⟩;refine⟨hle,?_⟩;have E:=T.form;obtain⟨p',c',rfl,Lw⟩:=E;conv=>whnf
   refine⟨(vR ⟨λa=>?_,λa=>?_⟩).symm,hle⟩
   ·have:=a.2.2.2.2.2;simpa using this
   exact⟨O,O,e,M,O,by simpa using a⟩
  exact⟨d (λa=>b a.2.2.2.2.1),Heap.le_refl h⟩
theorem Fj (t vs:List Value) (u:aS) (m:cu) (h:Heap) (S:cZ h t u) (M:dO h vs m):Pure prog 111 [.agg ⟨t⟩,.agg ⟨vs⟩] h (tf (eW u.aq.length m)):=by
 obtain⟨aa,ab,ad,k,rfl,h1,h2,h3,h4,g,H,I,J⟩:=M;obtain⟨cv,mv,rfl,q,P⟩:=S;have o:=q.1;have vG:=g.1;have f:=q.len;obtain⟨T,A,rfl,_,_⟩:=f;have f:=g.len;obtain⟨V,v,rfl,_,_⟩:=f;have f:=P.len;obtain⟨W,w,rfl,_,_⟩:=f;have f:=H.len;obtain⟨X,x,rfl,_,_⟩:=f;have f:=I.len;obtain⟨Y,y,rfl,_,_⟩:=f;have f:=J.len;obtain⟨p5,z,rfl,_,_⟩:=f;have b:¬eW u.aq.length m->.bool false=tf (eW u.aq.length m):=λa=>(cS a).symm;have K:((cj m).length:Int)=(if 0<=m.cls then 1 else 0)+m.args.length:=by
  unfold cj;split<;>simp
  omega
 refine fD aB func111 RJ U rfl ?_;conv=>whnf
 apply aD<;>intro d0;all_goals conv=>whnf
 all_goals
  simp only[d0,if_true,if_false]at K;apply aD<;>intro d1;all_goals conv=>whnf
  ·exact⟨b (by intro a;have:=a.1;omega),rfl⟩
  refine av ?_;conv=>whnf
  refine ax (de _ _ _ _) ?_;conv=>whnf
  apply aU<;>intro d2;all_goals conv=>whnf
  ·exact⟨b (by intro a;have:=a.1;omega),rfl⟩
  apply aD<;>intro d3;all_goals conv=>whnf
  ·exact⟨b (by intro a;have:=a.2.1;omega),rfl⟩
  refine ax (oh _ _ _ _ _ o) ?_;conv=>whnf
  apply aU<;>intro d4;all_goals conv=>whnf
  ·exact⟨b (λa=>d4 a.2.2.1),rfl⟩
  refine av ?_;conv=>whnf
  refine ax (de _ _ _ _) ?_;conv=>whnf
  apply aU<;>intro d5;all_goals conv=>whnf
  ·exact⟨b (by intro a;have:=a.2.2.2.2;omega),rfl⟩
  refine eu [2,3,6] [2,3] (λi:Nat=>i<=m.args.length/\∀ j (d:j < m.args.length),j < i->cL u.aq.length m.args[j]) (λi=>m.args.length-i)
   (λi=>([.l 2 0,.l 3 0,.v (.int .i64 i)],
    [some [.slice T u.aq.length A,.slice W u.methods.length w],some [.int .i64 m.cls,.int .i64 m.er,.slice V m.args.length v,.int .i64 m.out,.int .i64 m.locals,.slice X m.code.length x,.slice Y m.aT.length y,.slice p5 m.catches.length z]],h)) 0 ⟨O,λl o h=>O⟩ rfl ?_
  rintro i ⟨hi,s⟩;conv=>whnf
  apply aD<;>intro E;all_goals conv=>whnf
  ·have N:i < m.args.length:=by omega
   have D:=g.get N;obtain⟨bb,off,vs,Q,B,C,e3⟩:=D;subst C;refine ay ?_;conv=>whnf
   refine aP Q ?_;conv=>whnf
   refine ld (aM B (i:=0) rfl) ?_;conv=>whnf
   refine aO (oh _ _ _ _ _ o) ?_;conv=>whnf
   apply aU<;>intro c;all_goals conv=>whnf
   ·exact⟨b (λa=>c (a.2.2.2.1 _ (List.getElem_mem _))),rfl⟩
   refine av ?_;conv=>whnf
   refine cT (i+1) ⟨O,λj d L=>?_⟩ O rfl;rcases Nat.lt_succ_iff_lt_or_eq.1 L with G|rfl
   ·exact s j d G
   exact c
  have p:fQ u.aq.length m.args:=by
   intro ae R;obtain⟨j,d,rfl⟩:=List.mem_iff_getElem.1 R;exact s j d O
  apply aD<;>intro c;all_goals conv=>whnf
  ·first
    | (exfalso;omega)
    | (
     refine ax (de _ _ _ _) ?_;conv=>whnf
     apply aD<;>intro F;all_goals conv=>whnf
     ·exact⟨(ei ⟨O,O,d4,p,O,O⟩).symm,rfl⟩
     apply aD<;>intro e;all_goals conv=>whnf
     ·exfalso;omega
     exact⟨b (by intro a;have:=a.1;omega),rfl⟩)
  first
   | (exfalso;omega)
   | (
    apply aD<;>intro e;all_goals conv=>whnf
    ·refine⟨(vR ⟨λa=>?_,λa=>?_⟩).symm,rfl⟩
     ·have:=a.1;omega
     exact⟨O,O,d4,p,O,O⟩
    exfalso;omega)
def dZ (a b:Int):Value:=.agg #[.int .i64 a,.int .i64 b]
def ir:List (Int × Value):=[(1,dZ 1 0),(2,dZ 0 0),(3,dZ 2 0),(4,dZ 2 0),(5,dZ 0 0),(6,dZ 0 0),(7,dZ 3 0),(8,dZ 4 0),(9,dZ 4 0),(10,dZ 4 0),(11,dZ 4 0),(12,dZ 5 0),(13,dZ 6 0),(14,dZ 0 0),(15,dZ 6 0),(16,dZ 6 0),(17,dZ 5 8),(18,dZ 5 8),(19,dZ 5 0),(20,dZ 7 0),(21,dZ 5 9),(22,dZ 0 0),(23,dZ 0 0),(24,dZ 0 0)]
theorem Iw (h:Heap):bI prog 52 [] h λv h'=>∃ b,v=.map (some b)/\h b=none/\h'=h.set b (mV ir):=by
 refine bT aB func52 Y2 U rfl ?_;conv=>whnf
 refine Lx (λb a=>?_);conv=>whnf
 repeat' (refine Im rfl rfl rfl (λw=>rfl) (λw=>rfl) rfl ?_;conv=>whnf)
 exact⟨b,rfl,a,rfl⟩
def Kf:cu:=⟨0,0,[],0,0,[],[],[]⟩
def aY (u:aS) (n:Int):cu:=u.methods.getD n.toNat Kf
theorem fm {u:aS} {n:Int} {i:Nat} (a:i < u.methods.length) (b:n=i):aY u n=u.methods[i]:=by
 subst b;simp[aY,a]
theorem cZ.form {h:Heap} {e:List Value} {u:aS} (m:cZ h e u):∃ p c q d,e=[.slice p u.aq.length c,.slice q u.methods.length d]/\eD h (.slice p u.aq.length c) u.aq/\Row 8 dO h (.slice q u.methods.length d) u.methods /\
  u.aq.length<=140737488351232/\u.methods.length<=140737488351232:=by
 obtain⟨s,t,rfl,a,b⟩:=m;obtain⟨p,g,rfl,_,i⟩:=a.len;obtain⟨o,f,rfl,_,j⟩:=b.len;exact⟨p,g,o,f,rfl,a,b,i,j⟩
theorem dO.form {h:Heap} {vs:List Value} {m:cu} (A:dO h vs m):∃ e a f b g c i d,vs=[.int .i64 m.cls,.int .i64 m.er,.slice e m.args.length a,.int .i64 m.out,.int .i64 m.locals,.slice f m.code.length b,.slice g m.aT.length c,.slice i m.catches.length d] /\
  cH m.cls/\cH m.er/\cH m.out/\cH m.locals/\cR h (.slice e m.args.length a) m.args/\Row 3 xJ h (.slice f m.code.length b) m.code/\Row 3 jJ h (.slice g m.aT.length c) m.aT/\Row 4 y9 h (.slice i m.catches.length d) m.catches /\
  m.args.length<=140737488351232/\m.code.length<=140737488351232/\m.aT.length<=140737488351232/\m.catches.length<=140737488351232:=by
 obtain⟨B,C,D,k,rfl,w,x,y,z,j,o,p,q⟩:=A;obtain⟨e,a,rfl,_,s⟩:=j.len;obtain⟨f,b,rfl,_,t⟩:=o.len;obtain⟨g,c,rfl,_,u⟩:=p.len;obtain⟨i,d,rfl,_,v⟩:=q.len;exact⟨e,a,f,b,g,c,i,d,rfl,w,x,y,z,j,o,p,q,s,t,u,v⟩
def br (u:aS) (m:cu) (a:Int) (b n:Int):Prop :=
 if b=1 then isWord n=true
 else if b=2 then 0<=n/\n < m.locals
 else if b=3 then 1<=n/\n<=4
 else if b=4 then 0<=n/\n < m.code.length
 else if b=5 then 0<=n/\n < u.aq.length
 else if b=6 then n=0\/n=1
 else if b=7 then (0<=n/\n < u.methods.length)/\(aY u n).cls = -1
 else if b=8 then 0<=n/\n < (cP u.aq a).length
 else if b=9 then 0<=n/\n < 3
 else n=0
theorem sU (y x:List Value) (u:aS) (m:cu) (k a b t n:Int) (h:Heap) (K:cZ h y u) (G:dO h x m) (ok:cn u.aq) (v:t=8->0<=a/\a < u.aq.length) :
  Pure prog 118 [.agg ⟨y⟩,.agg ⟨x⟩,.agg #[.int .i64 k,.int .i64 a,.int .i64 b],.int .i64 t,.int .i64 n] h (tf (br u m a t n)):=by
 obtain⟨ab,Y,ad,aa,rfl,F,H,ko,hl2⟩:=K.form;obtain⟨p1,T,p2,V,p3,W,p4,X,rfl,h1,h2,h3,h4,h5,h6,h7,h8,M,N,P,Q⟩:=G.form;refine Il aB func118 RQ U rfl ?_;conv=>whnf
 apply aD<;>intro o;all_goals conv=>whnf
 ·refine ax (qi _ _) ?_;conv=>whnf
  exact⟨by simp[br,o,tf],Heap.le_refl h⟩
 apply aD<;>intro d;all_goals conv=>whnf
 ·repeat' ((first|refine bZ ?_|refine bD ?_|refine cU ?_|refine cy ?_|apply aD<;>intro _|apply aU<;>intro _|apply dM<;>intro _|apply cq<;>intro _|refine ay ?_|refine av ?_|refine ptr ?_)<;>conv=>whnf)
  all_goals first|(exfalso;omega)|exact⟨eM (by (try simp only[br,d,if_true,if_false])<;>first|omega|(simp;omega)|simp),Heap.le_refl h⟩|exact⟨dx (by (try simp only[br,d,if_true,if_false])<;>first|omega|(simp;omega)|simp),Heap.le_refl h⟩|exact⟨bS (by (try simp only[br,d,if_true,if_false])<;>first|omega|(simp;omega)|simp),Heap.le_refl h⟩
 apply aD<;>intro e;all_goals conv=>whnf
 ·repeat' ((first|refine bZ ?_|refine bD ?_|refine cU ?_|refine cy ?_|apply aD<;>intro _|apply aU<;>intro _|apply dM<;>intro _|apply cq<;>intro _|refine ay ?_|refine av ?_|refine ptr ?_)<;>conv=>whnf)
  all_goals first|(exfalso;omega)|exact⟨eM (by (try simp only[br,e,if_true,if_false])<;>first|omega|(simp;omega)|simp),Heap.le_refl h⟩|exact⟨dx (by (try simp only[br,e,if_true,if_false])<;>first|omega|(simp;omega)|simp),Heap.le_refl h⟩|exact⟨bS (by (try simp only[br,e,if_true,if_false])<;>first|omega|(simp;omega)|simp),Heap.le_refl h⟩
 apply aD<;>intro f;all_goals conv=>whnf
 ·repeat' ((first|refine bZ ?_|refine bD ?_|refine cU ?_|refine cy ?_|apply aD<;>intro _|apply aU<;>intro _|apply dM<;>intro _|apply cq<;>intro _|refine ay ?_|refine av ?_|refine ptr ?_)<;>conv=>whnf)
  all_goals first|(exfalso;omega)|exact⟨eM (by (try simp only[br,f,if_true,if_false])<;>first|omega|(simp;omega)|simp),Heap.le_refl h⟩|exact⟨dx (by (try simp only[br,f,if_true,if_false])<;>first|omega|(simp;omega)|simp),Heap.le_refl h⟩|exact⟨bS (by (try simp only[br,f,if_true,if_false])<;>first|omega|(simp;omega)|simp),Heap.le_refl h⟩
 apply aD<;>intro p;all_goals conv=>whnf
 ·refine ax (kR _ _ _ _ _) ?_;conv=>whnf
  exact⟨by simp[br,p],Heap.le_refl h⟩
 apply aD<;>intro g;all_goals conv=>whnf
 ·repeat' ((first|refine bZ ?_|refine bD ?_|refine cU ?_|refine cy ?_|apply aD<;>intro _|apply aU<;>intro _|apply dM<;>intro _|apply cq<;>intro _|refine ay ?_|refine av ?_|refine ptr ?_)<;>conv=>whnf)
  all_goals first|(exfalso;omega)|exact⟨eM (by (try simp only[br,g,if_true,if_false])<;>first|omega|(simp;omega)|simp),Heap.le_refl h⟩|exact⟨dx (by (try simp only[br,g,if_true,if_false])<;>first|omega|(simp;omega)|simp),Heap.le_refl h⟩|exact⟨bS (by (try simp only[br,g,if_true,if_false])<;>first|omega|(simp;omega)|simp),Heap.le_refl h⟩
 apply aD<;>intro c;all_goals conv=>whnf
 ·apply aD<;>intro q;all_goals conv=>whnf
  ·apply aD<;>intro E;all_goals conv=>whnf
   ·have w:n.toNat < u.methods.length:=by omega
    have z:=H.get w;obtain⟨R,off,vs,J,A,B⟩:=z;obtain⟨_,_,_,_,C,_⟩:=B;subst C;refine ay ?_;conv=>whnf
    refine aP J ?_;conv=>whnf
    refine ld (aM A (i:=0) rfl) ?_;conv=>whnf
    have s:aY u n=u.methods[n.toNat]:=fm w O;first|(exfalso;omega)|exact⟨eM (by (try simp only[br,c,if_true,if_false,s])<;>first|omega|(simp;omega)|simp),Heap.le_refl h⟩|exact⟨dx (by (try simp only[br,c,if_true,if_false,s])<;>first|omega|(simp;omega)|simp),Heap.le_refl h⟩|exact⟨bS (by (try simp only[br,c,if_true,if_false,s])<;>first|omega|(simp;omega)|simp),Heap.le_refl h⟩
   first|(exfalso;omega)|exact⟨eM (by (try simp only[br,c,if_true,if_false])<;>first|omega|(simp;omega)|simp),Heap.le_refl h⟩|exact⟨dx (by (try simp only[br,c,if_true,if_false])<;>first|omega|(simp;omega)|simp),Heap.le_refl h⟩|exact⟨bS (by (try simp only[br,c,if_true,if_false])<;>first|omega|(simp;omega)|simp),Heap.le_refl h⟩
  first|(exfalso;omega)|exact⟨eM (by (try simp only[br,c,if_true,if_false])<;>first|omega|(simp;omega)|simp),Heap.le_refl h⟩|exact⟨dx (by (try simp only[br,c,if_true,if_false])<;>first|omega|(simp;omega)|simp),Heap.le_refl h⟩|exact⟨bS (by (try simp only[br,c,if_true,if_false])<;>first|omega|(simp;omega)|simp),Heap.le_refl h⟩
 apply aD<;>intro w8;all_goals conv=>whnf
 ·apply aD<;>intro q;all_goals conv=>whnf
  ·refine aG (iG _ _ _ _ _ _ _ F ok (v w8).1 (v w8).2 (Nat.lt_succ_self _)) ?_;rintro ae h' ⟨hle,L,I,_⟩;have D:=I.form;obtain⟨p',S,rfl,Lw⟩:=D;conv=>whnf
   exact⟨eM (by simp only[br,w8,if_true,if_false];simp;omega),hle⟩
  first|(exfalso;omega)|exact⟨eM (by (try simp only[br,w8,if_true,if_false])<;>first|omega|(simp;omega)|simp),Heap.le_refl h⟩|exact⟨dx (by (try simp only[br,w8,if_true,if_false])<;>first|omega|(simp;omega)|simp),Heap.le_refl h⟩|exact⟨bS (by (try simp only[br,w8,if_true,if_false])<;>first|omega|(simp;omega)|simp),Heap.le_refl h⟩
 apply aD<;>intro j;all_goals conv=>whnf
 ·repeat' ((first|refine bZ ?_|refine bD ?_|refine cU ?_|refine cy ?_|apply aD<;>intro _|apply aU<;>intro _|apply dM<;>intro _|apply cq<;>intro _|refine ay ?_|refine av ?_|refine ptr ?_)<;>conv=>whnf)
  all_goals first|(exfalso;omega)|exact⟨eM (by (try simp only[br,j,if_true,if_false])<;>first|omega|(simp;omega)|simp),Heap.le_refl h⟩|exact⟨dx (by (try simp only[br,j,if_true,if_false])<;>first|omega|(simp;omega)|simp),Heap.le_refl h⟩|exact⟨bS (by (try simp only[br,j,if_true,if_false])<;>first|omega|(simp;omega)|simp),Heap.le_refl h⟩
 first|(exfalso;omega)|exact⟨eM (by (try simp only[br,o,d,e,f,p,g,c,w8,j,if_true,if_false])<;>first|omega|(simp;omega)|simp),Heap.le_refl h⟩|exact⟨dx (by (try simp only[br,o,d,e,f,p,g,c,w8,j,if_true,if_false])<;>first|omega|(simp;omega)|simp),Heap.le_refl h⟩|exact⟨bS (by (try simp only[br,o,d,e,f,p,g,c,w8,j,if_true,if_false])<;>first|omega|(simp;omega)|simp),Heap.le_refl h⟩
theorem om (k:Int) (v:Value):∀ {l:List (Int × Value)} {i j:Nat},iP k l i=some (j,v)->(k,v)∈l
 | [],_,_,h=>by cases h
 | (m,x)::l,i,j,h=>by
  rw[iP]at h;split at h
  ·rename_i a;subst a;cases h;exact List.mem_cons_self
  exact List.mem_cons_of_mem _ (om k v h)
def oS (k:Int):Option (Int × Int):=match iP k ir 0 with
 | some (_,.agg ⟨[.int _ a,.int _ b]⟩)=>some (a,b)
 | _=>none
theorem Bg (k:Int):(iP k ir 0=none/\oS k=none)\/∃ i a b,iP k ir 0=some (i,dZ a b)/\oS k=some (a,b)/\(b=0\/a=5)/\a≠8:=by
 have f:iP k ir 0=none\/∃ i a b,iP k ir 0=some (i,dZ a b)/\(b=0\/a=5)/\a≠8:=by
  cases e:iP k ir 0 with
  | none=>exact .inl rfl
  | some q =>
   obtain⟨i,v⟩:=q;have c:=om k v e;simp only[ir,List.mem_cons,List.not_mem_nil,or_false,Prod.mk.injEq]at c;rcases c with ⟨_,rfl⟩|⟨_,rfl⟩|⟨_,rfl⟩|⟨_,rfl⟩|⟨_,rfl⟩|⟨_,rfl⟩|⟨_,rfl⟩|⟨_,rfl⟩|⟨_,rfl⟩|⟨_,rfl⟩|⟨_,rfl⟩|⟨_,rfl⟩|⟨_,rfl⟩|⟨_,rfl⟩|⟨_,rfl⟩|⟨_,rfl⟩|⟨_,rfl⟩|⟨_,rfl⟩|⟨_,rfl⟩|⟨_,rfl⟩|⟨_,rfl⟩|⟨_,rfl⟩|⟨_,rfl⟩|⟨_,rfl⟩;all_goals refine .inr ⟨_,_,_,rfl,?_,?_⟩<;>decide
 rcases f with h|⟨i,a,b,h,d⟩
 ·exact .inl ⟨h,by simp[oS,h]⟩
 exact .inr ⟨i,a,b,h,by simp[oS,h,dZ],d⟩
def ej (u:aS) (m:cu) (x:dc):Prop:=∃ a b,oS x.kind=some (a,b)/\br u m x.a a x.a/\br u m x.a b x.b
def wv (u:aS) (m:cu):Prop:=1<=m.code.length/\m.code.length<=12/\m.aT.length=m.code.length/\(∀ x∈m.code,ej u m x)/\∀ s∈m.aT,rR u.aq.length m.locals s
theorem Fk (us W:List Value) (u:aS) (m:cu) (b:Nat) (h:Heap) (T:cZ h us u) (R:dO h W m) (ok:cn u.aq) (Q:h b=some (mV ir)) :
  Pure prog 54 [.agg ⟨us⟩,.agg ⟨W⟩,.map (some b)] h (tf (wv u m)):=by
 have V:=T;have S:=R;obtain⟨X,N,aa,P,rfl,hcs,kS,ko,hl2⟩:=T.form;obtain⟨Y,L,I,o,J,p,p4,M,rfl,h1,h2,h3,h4,h5,h6,h7,h8,b1,b2,b3,b4⟩:=R.form;have H:¬wv u m->.bool false=tf (wv u m):=λa=>(cS a).symm;refine fD aB func54 Y4 U rfl ?_;conv=>whnf
 repeat' ((first|refine bZ ?_|refine bD ?_|refine cU ?_|refine cy ?_|apply aD<;>intro _|apply aU<;>intro _|apply dM<;>intro _|apply cq<;>intro _|refine ay ?_|refine av ?_|refine ptr ?_)<;>conv=>whnf)
 all_goals first|exact⟨H (by intro a;have:=a.1;have:=a.2.1;have:=a.2.2.1;omega),rfl⟩|skip
 refine eu [2,3,4,33,34,35] [3,4] (λi:Nat=>i<=m.code.length/\∀ j (c:j < m.code.length),j < i->ej u m m.code[j]) (λi=>m.code.length-i)
  (λi=>([.v (.map (some b)),.l 3 0,.l 4 0,.v (.slice I m.code.length o),.v (.int .i64 m.code.length),.v (.int .i64 i)],
   [some [.slice X u.aq.length N,.slice aa u.methods.length P],some [.int .i64 m.cls,.int .i64 m.er,.slice Y m.args.length L,.int .i64 m.out,.int .i64 m.locals,.slice I m.code.length o,.slice J m.aT.length p,.slice p4 m.catches.length M]],h)) 0 ⟨O,λl hl h=>O⟩ rfl ?_
 rintro i ⟨hi,e⟩;conv=>whnf
 apply aD<;>intro y;all_goals conv=>whnf
 ·have E:i < m.code.length:=by omega
  have q:=h6.get E;obtain⟨bb,off,vs,F,s,t,v,x,e5⟩:=q;subst t;have bad:¬ej u m m.code[i]->Value.bool false=tf (wv u m):=λa=>H (λg=>a (g.2.2.2.1 _ (List.getElem_mem _)));refine ay ?_;conv=>whnf
  refine aP F ?_;conv=>whnf
  refine dh s ?_;conv=>whnf
  rcases Bg m.code[i].kind with ⟨C,f⟩|⟨j,K,w,C,f,hab,ZK⟩
  ·refine Ip (z:=dZ 0 0) rfl rfl (λw=>rfl) (λw=>rfl) (λw=>rfl) Q C ?_;conv=>whnf
   exact⟨bad (by rintro⟨_,_,a,_⟩;rw[f]at a;cases a),rfl⟩
  refine Io (z:=dZ 0 0) rfl rfl (λw=>rfl) (λw=>rfl) (λw=>rfl) Q C ?_;conv=>whnf
  refine ax (sU _ _ u m _ _ _ _ _ h V S ok (λa=>absurd a ZK)) ?_;conv=>whnf
  apply aU<;>intro d;all_goals conv=>whnf
  ·exact⟨bad (by rintro⟨_,_,a,g,_⟩;rw[f]at a;cases a;exact d g),rfl⟩
  refine ax (sU _ _ u m _ _ _ _ _ h V S ok ?_) ?_
  ·intro a;have ha:K=5:=by omega
   subst ha;simpa [br]using d
  conv=>whnf
  apply aU<;>intro A;all_goals conv=>whnf
  ·exact⟨bad (by rintro⟨_,_,a,_,g⟩;rw[f]at a;cases a;exact A g),rfl⟩
  refine av ?_;conv=>whnf
  refine cT (i+1) ⟨O,λj c D=>?_⟩ O rfl;rcases Nat.lt_succ_iff_lt_or_eq.1 D with B|rfl
  ·exact e j c B
  exact⟨K,w,f,d,A⟩
 have hA:∀ ad∈m.code,ej u m ad:=by
  intro ab G;obtain⟨j,c,rfl⟩:=List.mem_iff_getElem.1 G;exact e j c O
 refine eu [3,4,72,73,74] [3,4] (λi:Nat=>i<=m.aT.length/\∀ j (c:j < m.aT.length),j < i->rR u.aq.length m.locals m.aT[j]) (λi=>m.aT.length-i)
  (λi=>([.l 3 0,.l 4 0,.v (.slice J m.aT.length p),.v (.int .i64 m.aT.length),.v (.int .i64 i)],
   [some [.slice X u.aq.length N,.slice aa u.methods.length P],some [.int .i64 m.cls,.int .i64 m.er,.slice Y m.args.length L,.int .i64 m.out,.int .i64 m.locals,.slice I m.code.length o,.slice J m.aT.length p,.slice p4 m.catches.length M]],h)) 0 ⟨O,λl hl h=>O⟩ rfl ?_
 rintro i ⟨hi,e⟩;conv=>whnf
 apply aD<;>intro y;all_goals conv=>whnf
 ·have E:i < m.aT.length:=by omega
  have q:=h7.get E;obtain⟨bb,off,vs,F,s,l,k,t,v,x⟩:=q;subst t;obtain⟨p5,c5,rfl,_,_⟩:=v.len;obtain⟨p6,c6,rfl,_,_⟩:=x.len;refine ay ?_;conv=>whnf
  refine aP F ?_;conv=>whnf
  refine dh s ?_;conv=>whnf
  refine ax (DE _ _ _ _ _ _ _ h ko v x) ?_;conv=>whnf
  apply aU<;>intro d;all_goals conv=>whnf
  ·exact⟨H (λa=>d (a.2.2.2.2 _ (List.getElem_mem _))),rfl⟩
  refine av ?_;conv=>whnf
  refine cT (i+1) ⟨O,λj c D=>?_⟩ O rfl;rcases Nat.lt_succ_iff_lt_or_eq.1 D with B|rfl
  ·exact e j c B
  exact d
 refine⟨(ei ⟨O,O,O,hA,?_⟩).symm,rfl⟩;intro ab G;obtain⟨j,c,rfl⟩:=List.mem_iff_getElem.1 G;exact e j c O
def rS (u:aS) (m:cu) (c:kg):Prop:=(0<=c.lo/\c.lo < m.code.length/\0<=c.to/\c.to < m.code.length)/\(c.lo < c.hi/\c.hi<=m.code.length)/\(0<=c.cls/\c.cls < u.aq.length)/\up u.aq c.cls 1=true
def kT (u:aS) (m:cu):Prop:=m.catches.length<=2/\∀ c∈m.catches,rS u m c
theorem zj (q g:List Value) (u:aS) (m:cu) (h:Heap) (L:cZ h q u) (H:dO h g m) (ok:cn u.aq) :
  Pure prog 55 [.agg ⟨q⟩,.agg ⟨g⟩] h (tf (kT u m)):=by
 obtain⟨N,w,S,x,rfl,F,kS,ko,hl2⟩:=L.form;obtain⟨P,s,Q,t,R,v,p,e,rfl,h1,h2,h3,h4,h5,h6,h7,E,T,V,W,X⟩:=H.form;have o:¬kT u m->.bool false=tf (kT u m):=λa=>(cS a).symm;refine fD aB func55 Y5 U rfl ?_;conv=>whnf
 apply aD<;>intro B;all_goals conv=>whnf
 ·exact⟨o (λa=>by have:=a.1;omega),rfl⟩
 refine eu [2,3,12,13,14] [2,3] (λi:Nat=>i<=m.catches.length/\∀ j (c:j < m.catches.length),j < i->rS u m m.catches[j]) (λi=>m.catches.length-i)
  (λi=>([.l 2 0,.l 3 0,.v (.slice p m.catches.length e),.v (.int .i64 m.catches.length),.v (.int .i64 i)],
   [some [.slice N u.aq.length w,.slice S u.methods.length x],some [.int .i64 m.cls,.int .i64 m.er,.slice P m.args.length s,.int .i64 m.out,.int .i64 m.locals,.slice Q m.code.length t,.slice R m.aT.length v,.slice p m.catches.length e]],h)) 0 ⟨O,λl hl h=>O⟩ rfl ?_
 rintro i ⟨hi,f⟩;conv=>whnf
 apply aD<;>intro C;all_goals conv=>whnf
 ·have I:i < m.catches.length:=by omega
  have y:=E.get I;obtain⟨Y,off,vs,J,z,A,e3,e4,e5,e6⟩:=y;subst A;have bad:¬rS u m m.catches[i]->Value.bool false=tf (kT u m):=λa=>o (λM=>a (M.2 _ (List.getElem_mem _)));refine ay ?_;conv=>whnf
  refine aP J ?_;conv=>whnf
  refine dh z ?_;conv=>whnf
  repeat' ((first|refine bZ ?_|refine bD ?_|refine cU ?_|refine cy ?_|apply aD<;>intro _|apply aU<;>intro _|apply dM<;>intro _|apply cq<;>intro _|refine ay ?_|refine av ?_|refine ptr ?_)<;>conv=>whnf)
  all_goals first|(exfalso;omega)|exact⟨bad (by intro a;have:=a.1;have:=a.2.1;omega),rfl⟩|skip
  refine ax (kR _ _ _ _ _) ?_;conv=>whnf
  apply aU<;>intro d;all_goals conv=>whnf
  ·exact⟨bad (λa=>d a.2.2.1),rfl⟩
  refine ax (og _ _ _ _ _ _ _ F ok O O) ?_;conv=>whnf
  apply cq<;>intro b;all_goals conv=>whnf
  ·exact⟨bad (λa=>by rw[a.2.2.2]at b;cases b),rfl⟩
  refine av ?_;conv=>whnf
  refine cT (i+1) ⟨O,λj c G=>?_⟩ O rfl;rcases Nat.lt_succ_iff_lt_or_eq.1 G with D|rfl
  ·exact f j c D
  exact⟨O,O,d,b⟩
 refine⟨(ei ⟨O,?_⟩).symm,rfl⟩;intro aa K;obtain⟨j,c,rfl⟩:=List.mem_iff_getElem.1 K;exact f j c O
theorem xK (p q:Option Addr) (c d n k:Nat) (l r:List Int) (h:Heap) (m:cR h (.slice p n c) l) (o:cR h (.slice q k d) r) :
  Pure prog 120 [.slice p n c,.slice q k d] h (tf (l=r)):=by
 obtain⟨_,_,a,_,E⟩:=m.len;injection a with _ a _
 subst a;obtain⟨_,_,a,_,Q⟩:=o.len;injection a with _ a _
 subst a;refine fD aB func120 RS U rfl ?_;conv=>whnf
 apply aU<;>intro g;all_goals conv=>whnf
 ·exact⟨bS (λf=>by subst f;exact g rfl),rfl⟩
 have F:l.length=r.length:=by omega
 refine eu [0,1,12,13] [] (λi:Nat=>i<=l.length/\∀ j (b:j < l.length),j < i->l[j]=r[j]) (λi=>l.length-i)
  (λi=>([.v (.slice p l.length c),.v (.slice q r.length d),.v (.int .i64 l.length),.v (.int .i64 i)],[],h)) 0 ⟨O,λl E h=>O⟩ rfl ?_
 rintro i ⟨P,s⟩;conv=>whnf
 apply aD<;>intro z;all_goals conv=>whnf
 ·have B:i < l.length:=by omega
  have C:i < r.length:=by omega
  have x:=m.get B;have y:=o.get C;obtain⟨L,R,T,G,t,u,K⟩:=x;obtain⟨M,S,V,H,v,w,N⟩:=y;subst u w;have I:=aM t (i:=0) rfl;have J:=aM v (i:=0) rfl;repeat' ((first|refine ay ?_|refine aP G ?_|refine aP H ?_|refine ld I ?_|refine ld J ?_)<;>conv=>whnf)
  apply aU<;>intro e;all_goals conv=>whnf
  ·exact⟨bS (λf=>by subst f;exact e rfl),rfl⟩
  refine av ?_;conv=>whnf
  refine cT (i+1) ⟨O,λj b D=>?_⟩ O rfl;rcases Nat.lt_succ_iff_lt_or_eq.1 D with A|rfl
  ·exact s j b A
  exact e
 refine⟨dx ?_,rfl⟩;exact List.ext_getElem F (λj b _=>s j b O)
def ni (u:aS) (m n:cu):Prop:=0<=m.cls->0<=n.cls->m.er=n.er->m.cls≠n.cls/\(up u.aq m.cls n.cls=true->m.out=n.out/\m.args=n.args)
def mj (u:aS):Prop:=∀ i j (a:i < u.methods.length) (b:j < u.methods.length),i≠j->ni u u.methods[i] u.methods[j]
theorem Ix (J:List Value) (u:aS) (h:Heap) (hu:cZ h J u) (ok:cn u.aq) (E:∀ m∈u.methods,-1<=m.cls/\m.cls < u.aq.length) :
  Pure prog 56 [.agg ⟨J⟩] h (tf (mj u)):=by
 obtain⟨I,C,q,f,rfl,W,H,ko,hl2⟩:=hu.form;have no:¬mj u->.bool false=tf (mj u):=λa=>(cS a).symm;refine fD aB func56 Y6 U rfl ?_;conv=>whnf
 refine eu [1,8,9,10] [1] (λi:Nat=>i<=u.methods.length/\∀ e j (X:e < u.methods.length) (d:j < u.methods.length),e < i->e≠j->ni u u.methods[e] u.methods[j]) (λi=>u.methods.length-i)
  (λi=>([.l 1 0,.v (.slice q u.methods.length f),.v (.int .i64 u.methods.length),.v (.int .i64 i)],[some [.slice I u.aq.length C,.slice q u.methods.length f]],h)) 0 ⟨O,λ_ _ _ _ a=>O⟩ rfl ?_
 rintro i ⟨X,F⟩;conv=>whnf
 apply aD<;>intro S;all_goals conv=>whnf
 ·have x:i < u.methods.length:=by omega
  have o:=H.get x;obtain⟨bb,off,vs,hq,P,Q⟩:=o;have HU:=E _ (List.getElem_mem x);obtain⟨p1,K,p2,L,p3,M,p4,N,R,h1,h2,h3,h4,V,h6,h7,h8,b1,b2,b3,b4⟩:=Q.form;subst R;refine ay ?_;conv=>whnf
  refine aP hq ?_;conv=>whnf
  refine dh P ?_;conv=>whnf
  refine eu [1,3,4,8,9,10,16,17,18] [1,4] (λj:Nat=>j<=u.methods.length/\∀ c (d:c < u.methods.length),c < j->i≠c->ni u u.methods[i] u.methods[c]) (λj=>u.methods.length-j)
   (λj=>([.l 1 0,.v (.int .i64 i),.l 4 0,.v (.slice q u.methods.length f),.v (.int .i64 u.methods.length),.v (.int .i64 i),.v (.slice q u.methods.length f),.v (.int .i64 u.methods.length),.v (.int .i64 j)],
    [some [.slice I u.aq.length C,.slice q u.methods.length f],some [.int .i64 u.methods[i].cls,.int .i64 u.methods[i].er,.slice p1 u.methods[i].args.length K,.int .i64 u.methods[i].out,.int .i64 u.methods[i].locals,.slice p2 u.methods[i].code.length L,.slice p3 u.methods[i].aT.length M,.slice p4 u.methods[i].catches.length N]],h)) 0 ⟨O,λ_ _ a=>O⟩ rfl ?_
  rintro j ⟨d,G⟩;conv=>whnf
  apply aD<;>intro T;all_goals conv=>whnf
  ·have w:j < u.methods.length:=by omega
   have o:=H.get w;obtain⟨Qt,DA,Fl,Iy,f1,f2⟩:=o;have ZL:=E _ (List.getElem_mem w);obtain⟨S5,Oy,S6,Oz,S7,LO,S8,S9,f3,y,z,A,B,k5,k6,k7,k8,d1,d2,d3,d4⟩:=f2.form;subst f3;have bad:i≠j->¬ni u u.methods[i] u.methods[j]->Value.bool false=tf (mj u):=λb a=>no (λhy=>a (hy i j x w b));have s:(i≠j->ni u u.methods[i] u.methods[j])->∀ c (d:c < u.methods.length),c < j+1->i≠c->ni u u.methods[i] u.methods[c]:=by
    intro a c ZM Fm b;rcases Nat.lt_succ_iff_lt_or_eq.1 Fm with t|rfl
    ·exact G c ZM t b
    exact a b
   refine ay ?_;conv=>whnf
   refine aP Iy ?_;conv=>whnf
   refine dh f1 ?_;conv=>whnf
   by_cases OA:(i:Int)=j\/u.methods[i].cls < 0\/u.methods[j].cls < 0\/u.methods[i].er≠u.methods[j].er
   ·repeat' ((first|refine bZ ?_|refine bD ?_|refine cU ?_|refine cy ?_|apply aD<;>intro _|apply aU<;>intro _|apply dM<;>intro _|apply cq<;>intro _|refine ay ?_|refine av ?_|refine ptr ?_)<;>conv=>whnf)
    all_goals first
     | (exfalso;omega)
     | (refine cT (j+1) ⟨O,s (λb y z A=>O)⟩ O rfl)
   repeat' ((first|refine bZ ?_|refine bD ?_|refine cU ?_|refine cy ?_|apply aD<;>intro _|apply aU<;>intro _|apply dM<;>intro _|apply cq<;>intro _|refine ay ?_|refine av ?_|refine ptr ?_)<;>conv=>whnf)
   all_goals first
    | (exfalso;omega)
    | exact⟨bad O (λa=>(a O O O).1 O),rfl⟩
    | skip
   refine ax (og _ _ _ _ _ _ _ W ok O O) ?_;conv=>whnf
   apply dM<;>intro g;all_goals conv=>whnf
   ·apply aU<;>intro D;all_goals conv=>whnf
    ·exact⟨bad O (λa=>D ((a O O O).2 g).1),rfl⟩
    refine ax (xK _ _ _ _ _ _ _ _ h V k5) ?_;conv=>whnf
    apply aU<;>intro p;all_goals conv=>whnf
    ·exact⟨bad O (λa=>p ((a O O O).2 g).2),rfl⟩
    refine av ?_;conv=>whnf
    refine cT (j+1) ⟨O,s (λb y z A=>⟨O,λ_=>⟨O,p⟩⟩)⟩ O rfl
   refine av ?_;conv=>whnf
   refine cT (j+1) ⟨O,s (λb y z A=>⟨O,λB=>by rw[g]at B;cases B⟩)⟩ O rfl
  refine av ?_;conv=>whnf
  refine cT (i+1) ⟨O,λe j v d Y b=>?_⟩ O rfl;rcases Nat.lt_succ_iff_lt_or_eq.1 Y with t|rfl
  ·exact F e j v d t b
  exact G j d O b
 exact⟨dx (λe j v d b=>F e j v d O b),rfl⟩
theorem aL {u:aS} {m:cu} {k a b p q:Int} (d:oS k=some (p,q)):ej u m ⟨k,a,b⟩↔br u m a p a/\br u m a q b:=by
 constructor
 ·rintro⟨f,g,c,e⟩;simp only[d,Option.some.injEq,Prod.mk.injEq]at c;obtain⟨rfl,rfl⟩:=c;exact e
 rintro h;exact⟨p,q,d,h⟩
theorem rT {k p q:Int} (b:oS k=some (p,q)):(k,dZ p q)∈ir:=by
 rcases Bg k with ⟨_,h⟩|⟨i,c,d,h,a,_⟩
 ·rw[b]at h;cases h
 rw[b]at a;cases a;exact om _ _ h
theorem ec {cs:List dH} (ok:cn cs) {c:Int} (a:c < cs.length):(cP cs c).length<=8:=by
 have:=qk ok 4 c a (by have:=ok.2.1;omega);omega
theorem tH (B A:List Value) (u:aS) (m:cu) (x:dc) (h:Heap) (T:cZ h B u) (N:dO h A m) (ok:cn u.aq) (f:cH x.a/\cH x.b) (hml:0<=m.locals) :
  Pure prog 39 [.agg ⟨B⟩,.agg ⟨A⟩,.agg #[.int .i64 x.kind,.int .i64 x.a,.int .i64 x.b]] h (tf (ej u m x)):=by
 obtain⟨V,C,W,ab,rfl,M,Q,ko,hl2⟩:=T.form;obtain⟨p1,c1,p2,c2,p3,c3,p4,c4,rfl,h1,h2,h3,I,h5,h6,h7,h8,b1,b2,b3,b4⟩:=N.form;obtain⟨c,a,b⟩:=x;simp only at f ⊢;obtain⟨h40,h41⟩:=I;refine Il aB func39 YQ U rfl ?_;conv=>whnf
 refine av ?_;conv=>whnf
 refine ax (de _ _ _ _) ?_;conv=>whnf
 have X:∀(K:Value->Heap->Prop) (E:List PanicEntry->Heap->Prop),(0<=a/\a < u.aq.length)->(∀ q o e,h.le e->h.le e/\K (.slice q (cP u.aq a).length o) e)->fE prog 50 [.slice V u.aq.length C,.int .i64 a] h K E:=by
  intro K E v y;refine cO (iy _ _ _ _ _ _ _ M ok v.1 v.2 (Nat.lt_succ_self _)) ?_;rintro ad e ⟨hle,aa,R,_⟩;have H:=R.form;obtain⟨q,o,rfl,Lw⟩:=H;have:=y q o e hle;simpa using this
 have L:(0<=a/\a < u.methods.length)->∃ g j,W=some ⟨g,j,none⟩/\rd h g (j+a.toNat*8)=some (.int .i64 (aY u a).cls):=by
  intro w;have d:a.toNat < u.methods.length:=by omega
  have s:=Q.get d;obtain⟨g,j,vs,t,D,F⟩:=s;obtain⟨_,_,_,_,G,_⟩:=F;subst G;have P:aY u a=u.methods[a.toNat]:=fm d O;exact⟨g,j,t,by rw[P];exact aM D (i:=0) rfl⟩
 have EH:a < u.aq.length->(cP u.aq a).length<=8:=λf=>ec ok f;cases p:oS c with
 | none =>
  have y:c≠1/\c≠2/\c≠3/\c≠4/\c≠5/\c≠6/\c≠7/\c≠8/\c≠9/\c≠10/\c≠11/\c≠12/\c≠13/\c≠14/\c≠15/\c≠16/\c≠17/\c≠18/\c≠19/\c≠20/\c≠21/\c≠22/\c≠23/\c≠24:=by
   refine⟨?_,?_,?_,?_,?_,?_,?_,?_,?_,?_,?_,?_,?_,?_,?_,?_,?_,?_,?_,?_,?_,?_,?_,?_⟩<;>(rintro rfl;cases p)
  repeat' ((first|refine bZ ?_|refine bD ?_|refine cU ?_|refine cy ?_|apply aD<;>intro _|apply aU<;>intro _|apply dM<;>intro _|apply cq<;>intro _|refine ay ?_|refine av ?_|refine ptr ?_)<;>conv=>whnf)
  exact⟨bS (by rintro⟨_,_,f,_⟩;rw[p]at f;cases f),Heap.le_refl h⟩
 | some Y =>
  obtain⟨wa,wb⟩:=Y;have d:=aL (u:=u) (m:=m) (a:=a) (b:=b) p;have z:=rT p;simp only[ir,dZ,List.mem_cons,List.not_mem_nil,or_false,Prod.mk.injEq,Value.agg.injEq,Array.mk.injEq,List.cons.injEq,Value.int.injEq,true_and,and_true]at z;rcases z with ⟨rfl,rfl,rfl⟩|⟨rfl,rfl,rfl⟩|⟨rfl,rfl,rfl⟩|⟨rfl,rfl,rfl⟩|⟨rfl,rfl,rfl⟩|⟨rfl,rfl,rfl⟩|⟨rfl,rfl,rfl⟩|⟨rfl,rfl,rfl⟩|⟨rfl,rfl,rfl⟩|⟨rfl,rfl,rfl⟩|⟨rfl,rfl,rfl⟩|⟨rfl,rfl,rfl⟩|⟨rfl,rfl,rfl⟩|⟨rfl,rfl,rfl⟩|⟨rfl,rfl,rfl⟩|⟨rfl,rfl,rfl⟩|⟨rfl,rfl,rfl⟩|⟨rfl,rfl,rfl⟩|⟨rfl,rfl,rfl⟩|⟨rfl,rfl,rfl⟩|⟨rfl,rfl,rfl⟩|⟨rfl,rfl,rfl⟩|⟨rfl,rfl,rfl⟩|⟨rfl,rfl,rfl⟩;all_goals conv=>whnf
  rotate_left 19
  ·refine av ?_;conv=>whnf
   refine ax (de _ _ _ _) ?_;conv=>whnf
   apply aD<;>intro w;all_goals conv=>whnf
   ·have J:0<=a/\a < u.methods.length:=by omega
    have s:=L J;obtain⟨g,j,t,S⟩:=s;repeat' ((first|apply aD<;>intro _|apply aU<;>intro _|apply dM<;>intro _|apply cq<;>intro _|refine aP t ?_|refine ld S ?_|refine ay ?_|refine av ?_|refine ptr ?_)<;>conv=>whnf)
    all_goals first
     | exact⟨eM (by rw[d];simp[br,isWord];omega),Heap.le_refl _⟩
     | exact⟨bS (by rw[d];simp[br,isWord];omega),Heap.le_refl _⟩
     | exact⟨dx (by rw[d];simp[br,isWord];omega),Heap.le_refl _⟩
     | skip
   exact⟨bS (by rw[d];simp[br,isWord];omega),Heap.le_refl _⟩
  all_goals
   repeat' ((first|apply aD<;>intro _|apply aU<;>intro _|apply dM<;>intro _|apply cq<;>intro _|refine ax (de _ _ _ _) ?_|refine ax (m8 _ _) ?_|refine aO (de _ _ _ _) ?_|refine X _ _ O (λq o e hle=>⟨hle,?_⟩)|refine ay ?_|refine av ?_|refine ptr ?_)<;>conv=>whnf)
   all_goals first
    | exact⟨eM (by rw[d];simp[br,isWord];omega),by first|exact Heap.le_refl _|assumption⟩
    | exact⟨bS (by rw[d];simp[br,isWord];omega),by first|exact Heap.le_refl _|assumption⟩
    | exact⟨dx (by rw[d];simp[br,isWord];omega),by first|exact Heap.le_refl _|assumption⟩
    | skip
end Go.Proofs
