/- Lemmas. -/
import Derived.Test.YthkgbjpkklkppaaGreatDoorMb5
set_option linter.unusedSimpArgs false
set_option linter.unusedVariables false
namespace Go.Proofs
open Go.Vc Go.Proofs.Tryz
set_option maxRecDepth 100000
def Bytes (h:Heap) (v:Value) (n:Nat):Prop:=∃ p c,v=.slice p n c/\n<=c/\(n=0\/∃ b a,p=some ⟨b,a,none⟩/\∀ i,i < n->∃ x:Int,rd h b (a+i)=some (.int .u8 x)/\0<=x/\x < 256)
theorem Heap.set_set (h:Heap) (b:Nat) (o a:Obj):(Heap.set h b o).set b a=Heap.set h b a:=by
 funext c;simp only[Heap.set];split<;>rfl
theorem rd_some {h:Heap} {b off:Nat} {v:Value} (c:rd h b off=some v):h b≠none:=by
 intro a;simp[rd,a]at c
theorem Bytes.set {h:Heap} {v:Value} {n a:Nat} (b:Bytes h v n) (g:h a=none) (o:Obj):Bytes (h.set a o) v n:=by
 obtain⟨t,e,rfl,i,b⟩:=b;refine⟨t,e,rfl,i,b.imp id ?_⟩;rintro⟨c,s,rfl,p⟩;refine⟨c,s,rfl,λq j=>?_⟩;obtain⟨x,d,f⟩:=p q j;have m:c≠a:=by rintro rfl;exact rd_some d g
 exact⟨x,by rw[tB m];exact d,f⟩
def cO (h:Heap) (a:Nat) (vb:Value) (p:Int):Heap:=h.set a (.cells #[vb,.int .i64 p] 90)
theorem BO {a b:Int} (h:0<=a) (c:0 < b):0<=a.tmod b/\a.tmod b < b:=by
 rw[Int.tmod_eq_emod_of_nonneg h];exact⟨Int.emod_nonneg _ O,Int.emod_lt_of_pos _ c⟩
theorem sK {a b:Int} (h:0<=a) (c:0 < b):0<=a.tdiv b/\a.tdiv b<=a:=by
 rw[Int.tdiv_eq_ediv_of_nonneg h];exact⟨Int.ediv_nonneg h O,Int.ediv_le_self _ h⟩
theorem AN {a b:Int} (d:0<=a) (f:a < 9223372036854775808) (g:0<=b) (h:b < 9223372036854775808):0<=rD .xor .i64 a b:=by
 unfold rD;simp only;have i:(BitVec.ofInt IntKind.i64.bits a ^^^ BitVec.ofInt IntKind.i64.bits b).toNat < 2 ^ 63:=by
  rw[BitVec.toNat_xor];have e:∀ z:Int,0<=z->z < 9223372036854775808->(BitVec.ofInt IntKind.i64.bits z).toNat < 2 ^ 63:=by
   intro z c j;rw[BitVec.toNat_ofInt];show(z % ((2 ^ 64:Nat):Int)).toNat < 2 ^ 63;rw[Int.emod_eq_of_lt c O];omega
  exact Nat.xor_lt_two_pow (e a d f) (e b g h)
 rw[wrap_i64 O O];omega
theorem KG (c n:Nat) (vb:Value) (p k:Int) (h:Heap) (D:h c=none) (e:Bytes h vb n) (W:0<=p) (X:p<=1000000000000) (V:n<=1000000000000) :
  bq prog 43 [.pointer (some ⟨c,0,none⟩),.int .i64 k] (cO h c vb p) λv I=>∃ x,v=.int .i64 x/\0<=x/\(1<=k->x < k)/\(k < 1->x=0)/\I=cO h c vb (p+1):=by
 refine bE ax func43 WB U rfl ?_;have t:(cO h c vb p) c=some (.cells #[vb,.int .i64 p] 90):=by simp[cO,Heap.set]
 have s:=e.set D (.cells #[vb,.int .i64 p] 90);change Bytes (cO h c vb p) vb n at s
 have G:∀ q,(cO h c vb p).set c (.cells #[vb,.int .i64 q] 90)=cO h c vb q:=λq=>Heap.set_set _ _ _ _;have K:=G (p+1);clear G e D;generalize cO h c vb (p+1)=R at *;generalize cO h c vb p=h at *;subst K;have e:=s;clear s;obtain⟨q,f,rfl,_,e⟩:=e;conv=>whnf
 refine ld (v:=.int .i64 p) (by simp[rd,t]) ?_;conv=>whnf
 refine av ?_;conv=>whnf
 refine st t Z ?_;conv=>whnf
 apply aC<;>intro J;all_goals conv=>whnf
 ·exact⟨0,rfl,O,O,O,rfl⟩
 refine ld (v:=.slice q n f) (by simp[rd,Heap.set,eH,Gs]) ?_;conv=>whnf
 apply aC<;>intro B;all_goals conv=>whnf
 ·exact⟨0,rfl,O,O,O,rfl⟩
 have F:rd (h.set c (.cells (eH #[Value.slice q n f,.int .i64 p].toList (0+1) [.int .i64 (p+1)]).toArray 90)) c (0+1)=some (.int .i64 (p+1)):=by simp[rd,Heap.set,eH,Gs]
 have w:rd (h.set c (.cells (eH #[Value.slice q n f,.int .i64 p].toList (0+1) [.int .i64 (p+1)]).toArray 90)) c 0=some (.slice q n f):=by simp[rd,Heap.set,eH,Gs]
 rcases e with e|⟨b,g,rfl,e⟩
 ·exact absurd O B
 have L:∀ i,i < n->∃ x:Int,rd (h.set c (.cells (eH #[Value.slice (some ⟨b,g,none⟩) n f,.int .i64 p].toList (0+1) [.int .i64 (p+1)]).toArray 90)) b (g+i)=some (.int .u8 x)/\0<=x/\x < 256:=by
  intro i M;obtain⟨x,d,C⟩:=e i M;have N:b≠c:=by
   intro E;subst E;simp only[rd,t]at d;match E:g+i,d with
   | 0,d=>simp at d
   | 1,d=>simp at d
   | m+2,d=>simp at d
  exact⟨x,by rw[tB N];exact d,C⟩
 have u:∀ i:Int,0<=i->i < n->∃ x:Int,rd (h.set c (.cells (eH #[Value.slice (some ⟨b,g,none⟩) n f,.int .i64 p].toList (0+1) [.int .i64 (p+1)]).toArray 90)) b (g+i.toNat*1)=some (.int .u8 x)/\0<=x/\x < 256:=by
  intro i C S;rw[Nat.mul_one];exact L i.toNat O
 have T:h.set c (.cells (eH #[Value.slice (some ⟨b,g,none⟩) n f,.int .i64 p].toList (0+1) [.int .i64 (p+1)]).toArray 90)=h.set c (.cells #[.slice (some ⟨b,g,none⟩) n f,.int .i64 (p+1)] 90):=rfl;refine ld F ?_;conv=>whnf
 refine av ?_;conv=>whnf
 refine ld w ?_;conv=>whnf
 apply aC<;>intro d;all_goals conv=>whnf
 ·refine ld w ?_;conv=>whnf
  refine ay ?_;conv=>whnf
  obtain⟨x,A,H,P⟩:=u (p+1-1) O O;refine ptr ?_;conv=>whnf
  refine ld A ?_;conv=>whnf
  refine av ?_;conv=>whnf
  refine ay ?_;conv=>whnf
  have j:x.tmod k=x % k:=Int.tmod_eq_emod_of_nonneg H;exact⟨x.tmod k,rfl,by rw[j];exact Int.emod_nonneg _ O,λh=>by rw[j];exact Int.emod_lt_of_pos _ O,O,rfl⟩
 have t1:=BO (a:=p+1-1) (b:=n) O O;have t2:=BO (a:=(p+1-1)*7+3) (b:=n) O O;have t3:=sK (a:=p+1-1) (b:=n) O O;obtain⟨x,A,H,P⟩:=u _ t1.1 t1.2;obtain⟨y,Q,Y,hy1⟩:=u _ t2.1 t2.2;have t4:=sK (a:=x*131+y*1117+(p+1-1)*29+(p+1-1).tdiv n*53) (b:=64) O O;repeat' ((first
  | refine ld w ?_
  | refine ld F ?_
  | refine av ?_
  | refine ay ?_
  | refine ptr ?_
  | refine ld A ?_
  | refine ld Q ?_)<;>conv=>whnf)
 have j:∀ z:Int,0<=z->z.tmod k=z % k:=λz o=>Int.tmod_eq_emod_of_nonneg o;have o:0<=rD .xor .i64 (x*131+y*1117+(p+1-1)*29+(p+1-1).tdiv n*53) ((x*131+y*1117+(p+1-1)*29+(p+1-1).tdiv n*53).tdiv 64):=by
  refine AN O O ?_ ?_
  ·exact(sK O O).1
  have:=(sK (a:=x*131+y*1117+(p+1-1)*29+(p+1-1).tdiv n*53) (b:=64) O O).2;omega
 exact⟨_,rfl,by rw[j _ o];exact Int.emod_nonneg _ O,λh=>by rw[j _ o];exact Int.emod_lt_of_pos _ O,O,rfl⟩
set_option maxHeartbeats 4000000
theorem ng (g:Heap) (a:Nat) (vb:Value) (p:Int):∃ o,cO g a vb p a=some o:=⟨_,by unfold cO;exact cY _ _ _⟩
theorem fH {g:Heap} {a b:Nat} {vb:Value} {p:Int} (h:b≠a):cO g a vb p b=g b:=by unfold cO;simp[Heap.set,h]
theorem qi {g:Heap} {a:Nat} {vb:Value} {p:Int} (b:g a=none):aV (cO g a vb p) a=g:=by
 funext x
 unfold aV;by_cases e:x=a
 ·rw[if_pos e,e,b]
 rw[if_neg e,fH e]
theorem kW {h:Heap} {g:Heap} {a:Nat} {vb:Value} {p:Int} (b:h a=cO g a vb p a):h=cO (aV h a) a vb p:=by
 funext x
 by_cases e:x=a
 ·rw[e,b];unfold cO;rw[cY,cY]
 rw[fH e];unfold aV;rw[if_neg e]
theorem eE {g:Heap} {a:Nat} {vb:Value} {p:Int} (b:g a=none):g.le (cO g a vb p):=Heap.aT (z_ g) b
theorem Bytes.le {h b:Heap} (j:h.le b) {v:Value} {n:Nat} (a:Bytes h v n):Bytes b v n:=by
 obtain⟨q,d,rfl,g,a⟩:=a;refine⟨q,d,rfl,g,a.imp id ?_⟩;rintro⟨c,p,rfl,m⟩;refine⟨c,p,rfl,λo i=>?_⟩;obtain⟨x,e,f⟩:=m o i;exact⟨x,cW j e,f⟩
structure bC (g:Heap) (bb:Nat) (vb:Value) (p:Int):Prop where
 free:g bb=none
 bytes:∃ n,Bytes g vb n/\n<=2000
 lo:0<=p
theorem bC.to {g b:Heap} {a:Nat} {vb:Value} {p q:Int} (r:bC g a vb p) (f:g.le b) (e:b a=none) (h:p<=q):bC b a vb q :=
 ⟨e,by obtain⟨n,c,d⟩:=r.bytes;exact⟨n,c.le f,d⟩,by have:=r.lo;omega⟩
theorem bC.on {g:Heap} {a:Nat} {vb:Value} {p q:Int} (r:bC g a vb p) (b:p<=q):bC g a vb q:=r.to (z_ g) r.free b
def Dr (P:Program) (f:FuncId) (args:List Value) (g:Heap) (b:Nat) (vb:Value) (p k:Int) (A:Heap->Value->Prop):Prop :=
 bq P f args (cO g b vb p) λv c=>∃ a q,c=cO a b vb q/\g.le a/\a b=none/\p<=q/\q<=p+k/\A a v
theorem ia {P:Program} {f:FuncId} {args:List Value} {g:Heap} {b:Nat} {vb:Value} {p k:Int} {A:Heap->Value->Prop} {K:Value->Heap->Prop} {E:List PanicEntry->Heap->Prop} (r:bC g b vb p) (j:Dr P f args g b vb p k A)
  (o:∀ v a q,g.le a->bC a b vb q->p<=q->q<=p+k->A a v->K v (cO a b vb q)):Go.Vc.Call P f args (cO g b vb p) K E :=
 aB j λv s m=>by
  obtain⟨a,q,rfl,d,i,c,e,h⟩:=m;exact o v a q d (r.to d i c) c e h
theorem bN {g:Heap} {a:Nat} {vb:Value} {p k:Int} {K:Value->Heap->Prop} {E:List PanicEntry->Heap->Prop} (r:bC g a vb p) (j:p<=1000000000)
  (c:∀ x,0<=x->(1<=k->x < k)->(k < 1->x=0)->bC g a vb (p+1)->K (.int .i64 x) (cO g a vb (p+1))):Go.Vc.Call prog 43 [.pointer (some ⟨a,0,none⟩),.int .i64 k] (cO g a vb p) K E:=by
 obtain⟨n,b,i⟩:=r.bytes;refine aB (KG a n vb p k g r.free b r.lo O O) ?_;rintro v h ⟨x,rfl,d,e,f,rfl⟩;exact c x d e f (r.on O)
theorem Hz {P:Program} {f:FuncId} {args:List Value} {g:Heap} {b:Nat} {vb:Value} {p:Int} {R:Value->Heap->Prop} {K:Value->Heap->Prop} {E:List PanicEntry->Heap->Prop} (r:bC g b vb p) (d:bq P f args g λv a=>g.le a/\R v a)
  (h:∀ v a,g.le a->bC a b vb p->R v a->K v (cO a b vb p)):Go.Vc.Call P f args (cO g b vb p) K E:=by
 obtain⟨o,i⟩:=ng g b vb p;have e:bq P f args (aV (cO g b vb p) b) λv a=>g.le a/\R v a:=by rw[qi r.free];exact d
 refine aB (kV i e) λv j c=>?_;rw[kW c.1];exact h v _ c.2.1 (r.to c.2.1 (by simp[aV]) (Int.le_refl _)) c.2.2
theorem Vn {P:Program} {f:FuncId} {args:List Value} {g:Heap} {c:Nat} {vb:Value} {p:Int} {R:Value->Heap->Prop} {K:Value->Heap->Prop} {E:List PanicEntry->Heap->Prop} (r:bC g c vb p) (e:bq P f args g λv a=>g.le a/\R v a)
  (i:∀ v a,g.le a->bC a c vb p->R v a->K v (cO a c vb p)):Go.Vc.gD P f args (cO g c vb p) K E:=by
 obtain⟨o,j⟩:=ng g c vb p;have h:bq P f args (aV (cO g c vb p) c) λv a=>g.le a/\R v a:=by rw[qi r.free];exact e
 refine cP (kV j h) λv m d=>⟨?_,?_⟩
 ·refine wZ (b:=c) ?_ d.1;rw[qi r.free];exact d.2.1
 rw[kW d.1];exact i v _ d.2.1 (r.to d.2.1 (by simp[aV]) (Int.le_refl _)) d.2.2
theorem KH {P:Program} {f:FuncId} {args:List Value} {g:Heap} {a:Nat} {vb:Value} {p:Int} {x:Value} {K:Value->Heap->Prop} {E:List PanicEntry->Heap->Prop} (r:bC g a vb p) (d:Pure P f args g x) (h:K x (cO g a vb p)):Go.Vc.Call P f args (cO g a vb p) K E:=by
 obtain⟨o,i⟩:=ng g a vb p;have e:bq P f args (aV (cO g a vb p) a) λv c=>v=x/\c=g:=by rw[qi r.free];exact d
 refine aB (kV i e) λv j b=>?_;rw[kW b.1,b.2.2,b.2.1];exact h
theorem iM {g:Heap} {a:Nat} {vb:Value} {p:Int} {cs:List Value} {t:TypeId} {K:Nat->Heap->Prop} (i:List Value) (r:bC g a vb p) (m:cs=i) (q:∀ b e,g b=none->b≠a->g.le e->bC e a vb p->e b=some (.cells i.toArray t (0,0))->K b (cO e a vb p)):zB (cO g a vb p) cs t K:=by
 subst m;refine new λb d=>?_;have c:b≠a:=by
  rintro rfl;obtain⟨u,s⟩:=ng g b vb p;rw[s]at d;cases d
 rw[fH c]at d;have o:(cO g a vb p).set b (.cells cs.toArray t)=cO (g.set b (.cells cs.toArray t)) a vb p:=by
  funext x
  unfold cO;simp only[Heap.set];by_cases h:x=b
  ·have:x≠a:=by rw[h];exact c
   simp[h,c]
  simp[h]
 rw[o];have j:g.le (g.set b (.cells cs.toArray t)):=Heap.aT (z_ g) d;exact q b _ d c j (r.to j (by simp[Heap.set,λf=>c (Eq.symm f),r.free];intro f;exact absurd f.symm c) (Int.le_refl _)) (cY _ _ _)
theorem bY.cO {sz:Nat} {g:Heap} {a:Nat} {vb:Value} {p:Int} {v:Value} {xs:List (List Value)} {B:List Nat} (b:g a=none) (c:bY sz g v xs B):bY sz (Go.Proofs.cO g a vb p) v xs B:=c.aK (cS.of_le (eE b) _)
theorem bY.NK {sz:Nat} {h:Heap} {a:Nat} {v:Value} {xs:List (List Value)} {B:List Nat} (c:a ∉ B) (e:bY sz h v xs B):bY sz (aV h a) v xs B:=e.aK λb d o f=>by
 have:b≠a:=by rintro rfl;exact c d
 unfold aV;rw[if_neg this];exact f
theorem mb {bytes sz:Nat} {zero:List Value} {D:TypeId} {g0 g:Heap} {a:Nat} {vb:Value} {q:Int} {p:Option Addr} {n cap:Nat} {xs ys:List (List Value)} {B:List Nat} {m:Nat} {vs:List Value} {K:Value->Heap->Prop} {W:Int}
  (X:bC g0 a vb W) (r:bC g a vb q) (w:bY sz g (.slice p n cap) xs B) (F:∀ b∈B,g0 b=none) (hle:g0.le g) (P:vs=ys.flatten) (N:m=ys.length) (Q:∀ y∈ys,y.length=sz) (L:dI vs=true) (R:zero.length=sz)
  (G:(xs.length+ys.length)*bytes<=2 ^ 44) (H:xs.length+ys.length<=2 ^ 44)
  (M:∀ h d B',g0.le d->bC d a vb q->bY sz d h (xs++ys) B'->(∀ b∈B',g0 b=none)->(∀ b,b ∉ B->g b≠none->d b=g b)->(∀ b∈B',b∈B\/g b=none)->K h (cO d a vb q)):App bytes sz zero D (cO g a vb q) p n cap m vs K:=by
 have t:a ∉ B:=λf=>by obtain⟨s,c⟩:=w.in a f;rw[r.free]at c;cases c
 have E:g0 a=none:=by
  cases f:g0 a with
  | none=>rfl
  | some s=>have:=hle a s f;rw[r.free]at this;cases this
 refine dh (h0:=g0) (w.cO r.free) F (y_ hle (eE r.free)) P N Q L R G H ?_;intro h i B' S T V x z;obtain⟨s,o⟩:=ng g a vb q;have J:i a=cO g a vb q a:=x a t (by rw[o];simp);have I:a ∉ B':=λf=>by
  rcases z a f with c|c
  ·exact t c
  rw[o]at c;cases c
 rw[kW J];have u:g0.le (aV i a):=qf S E;have other:∀ b,b ∉ B->g b≠none->aV i a b=g b:=λb j v=>by
  have e:b≠a:=by rintro rfl;exact v r.free
  unfold aV;rw[if_neg e,x b j (by rw[fH e];exact v),fH e]
 refine M h _ B' u ⟨by simp[aV],by obtain⟨n,A,C⟩:=X.bytes;exact⟨n,A.le u,C⟩,r.lo⟩ (T.NK I) V other λb j=>?_;rcases z b j with c|c
 ·exact .inl c
 have e:b≠a:=by rintro rfl;rw[o]at c;cases c
 rw[fH e]at c;exact .inr c
theorem CV {g:Heap} {a:Nat} {vb:Value} {p:Int} (r:bC g a vb p) (m:p<=100000000) :
  Dr prog 145 [.pointer (some ⟨a,0,none⟩)] g a vb p 2 λd v=>d=g/\∃ x:Int,v=.int .i64 x/\-128<=x/\x<=127:=by
 refine bE ax func145 Qh U rfl ?_;conv=>whnf
 refine bN r O (λx o q s c=>?_);conv=>whnf
 apply aC<;>intro e;all_goals conv=>whnf
 ·refine bN c O (λy h i j b=>?_);have f:y=0\/y=1\/y=2\/y=3\/y=4\/y=5:=by omega
  rcases f with rfl|rfl|rfl|rfl|rfl|rfl;all_goals
   conv=>whnf
   refine ay ?_;conv=>whnf
   exact⟨_,_,rfl,z_ g,b.free,O,O,⟨rfl,_,rfl,O,O⟩⟩
 refine bN c O (λy h i j b=>?_);conv=>whnf
 refine av ?_;conv=>whnf
 exact⟨_,_,rfl,z_ g,b.free,O,O,⟨rfl,_,rfl,O,O⟩⟩
theorem me {g:Heap} {a:Nat} {vb:Value} {p:Int} (n:Int) (r:bC g a vb p) (e:p<=100000000) (d:1<=n/\n<=1000) :
  Dr prog 174 [.pointer (some ⟨a,0,none⟩),.int .i64 n] g a vb p 2 λb v=>b=g/\∃ t:Int,v=.int .i64 t/\bL n t:=by
 refine bE ax func174 QG U rfl ?_;conv=>whnf
 refine bN r O (λx h i j c=>?_);conv=>whnf
 repeat' ((first|exact⟨_,_,rfl,z_ g,r.free,O,O,⟨rfl,_,rfl,by unfold bL;omega⟩⟩|apply aC<;>intro _|refine av ?_|refine bN c O (λy m o q f=>?_))<;>conv=>whnf)
theorem ry {g:Heap} {b:Nat} {vb:Value} {p:Int} (n:Int) (r:bC g b vb p) (y:p<=90000000) (s:1<=n/\n<=1000) :
  Dr prog 119 [.pointer (some ⟨b,0,none⟩),.int .i64 n] g b vb p 4 λc v=>c=g/\∃ t:Int,v=.int .i64 t/\-1<=t/\t<=8+n:=by
 refine bE ax func119 P0 U rfl ?_;conv=>whnf
 refine bN r O (λA B C D f=>?_);conv=>whnf
 have i:∀ q,bC g b vb q->q<=100000000->_:=λq x u=>me n x u s;repeat' ((first|exact⟨_,_,rfl,z_ g,r.free,O,O,⟨rfl,_,rfl,O⟩⟩|apply aC<;>intro _)<;>conv=>whnf)
 ·refine bN f O (λE F G H h=>?_);conv=>whnf
  apply aC<;>intro _;all_goals conv=>whnf
  ·refine av ?_;conv=>whnf
   refine bN h O (λz I J K a=>?_);have w:z=0\/z=1\/z=2\/z=3:=by omega
   rcases w with rfl|rfl|rfl|rfl;all_goals
    conv=>whnf
    refine ay ?_;conv=>whnf
    exact⟨_,_,rfl,z_ g,a.free,O,O,⟨rfl,_,rfl,O,O⟩⟩
  refine ia h (i _ h O) (λv c q o a j m d=>?_);obtain⟨rfl,t,rfl,e⟩:=d;conv=>whnf
  exact⟨_,_,rfl,z_ _,a.free,O,O,⟨rfl,_,rfl,by unfold bL at e;omega⟩⟩
 refine ia f (i _ f O) (λv c q o a j m d=>?_);obtain⟨rfl,t,rfl,e⟩:=d;conv=>whnf
 exact⟨_,_,rfl,z_ _,a.free,O,O,⟨rfl,_,rfl,by unfold bL at e;omega⟩⟩
def kY (h:Heap) (x:List Value) (c:dB) (B:List Nat):Prop:=∃ v,x=[.int .i64 c.bJ,v]/\dM h v c.fields B
theorem oB:Kept kY:=λ_ _ _ _ _ c d=>by
 obtain⟨v,a,b⟩:=d;exact⟨v,a,b.aK c⟩
theorem S6:GM kY:=λ_ _ _ _ b=>by
 obtain⟨v,c,a⟩:=b;exact a.in
theorem HA {z:Type} {R:Heap->List Value->z->List Nat->Prop} (s:Kept R) (w:GM R) {bytes sz:Nat} {zero:List Value} {G:TypeId} {g0 g:Heap} {c:Nat} {vb:Value} {q0 q:Int} {p:Option Addr} {n cap:Nat} {l:List z} {a:z} {B Bi:List Nat} {m:Nat} {vs:List Value} {K:Value->Heap->Prop}
  (r0:bC g0 c vb q0) (r:bC g c vb q) (t:ep R sz g (.slice p n cap) l B) (D:R g vs a Bi) (V:Nd (B++Bi)) (I:∀ b∈B++Bi,g0 b=none) (hle:g0.le g) (T:m=1) (X:vs.length=sz) (P:dI vs=true) (Y:zero.length=sz)
  (J:(l.length+1)*bytes<=2 ^ 44) (L:l.length+1<=2 ^ 44)
  (S:∀ v i B',g0.le i->bC i c vb q->ep R sz i v (l++[a]) B'->Nd B'->(∀ b∈B',g0 b=none)->Ev g i (B++Bi) B'->K v (cO i c vb q)):App bytes sz zero G (cO g c vb q) p n cap m vs K:=by
 have H:g0 c=none:=by
  cases j:g0 c with
  | none=>rfl
  | some o=>have:=hle c o j;rw[r.free]at this;cases this
 have Q:∀ b∈B++Bi,∃ o,g b=some o:=λb e=>(u_.1 e).elim (t.in w b) (w _ _ _ _ D b);have A:c ∉ B++Bi:=λj=>by obtain⟨o,d⟩:=Q c j;rw[r.free]at d;cases d
 have x:=eE (vb:=vb) (p:=q) r.free;refine mL s w (h0:=g0) (t.aK s (cS.of_le x _)) (s _ _ _ _ _ (cS.of_le x _) D) V I (y_ hle x) T X P Y J L ?_;intro v f B' k1 k2 k3 k4 u;obtain⟨o,y⟩:=ng g c vb q;have N:f c=cO g c vb q c:=u.sr c (by rw[y];simp) A;have M:c ∉ B':=λj=>by
  rcases u.new c j with d|d
  ·exact A d
  rw[y]at d;cases d
 have ne:∀ b,f b≠none->b≠c->aV f c b=f b:=λb _ h=>by unfold aV;rw[if_neg h]
 have kp:cS f (aV f c) B':=λb e o t=>by
  have:b≠c:=by rintro rfl;exact M e
  unfold aV;rw[if_neg this];exact t
 rw[kW N];have C:g0.le (aV f c):=qf k1 H;refine S v _ B' C ⟨by simp[aV],by obtain⟨n,E,F⟩:=r0.bytes;exact⟨n,E.le C,F⟩,r.lo⟩ (k2.aK s kp) k3 k4 ⟨λb e W=>?_,λb e=>?_⟩
 ·have h:b≠c:=by rintro rfl;exact e r.free
  unfold aV;rw[if_neg h,u.sr b (by rw[fH h];exact e) W,fH h]
 rcases u.new b e with d|d
 ·exact .inl d
 have h:b≠c:=by rintro rfl;rw[y]at d;cases d
 rw[fH h]at d;exact .inr d
theorem sL {j:TypeId} {g0 g:Heap} {d:Nat} {vb:Value} {G q:Int} {p:Option Addr} {n c m:Nat} {l k:List Int} {B:List Nat} {K:Value->Heap->Prop} (H:bC g0 d vb G) (r:bC g d vb q) (x:dM g (.slice p n c) l B) (o:∀ b∈B,g0 b=none) (u:g0.le g) (w:m=k.length) (i:l.length+k.length<=1000000)
  (t:∀ f e a B',g0.le a->bC a d vb q->dM a (.slice f (l++k).length e) (l++k) B'->(∀ b∈B',g0 b=none)->Ev g a B B'->K (.slice f (l++k).length e) (cO a d vb q)):App 8 1 [.int .i64 0] j (cO g d vb q) p n c m (k.map (Value.int .i64)) K:=by
 refine mb H r (xs:=l.map bD) (ys:=k.map bD) x o u (dj k).symm (by rw[w];simp) (λL y=>by obtain⟨J,_,rfl⟩:=List.mem_map.1 y;rfl) (cR k) rfl (by simp;omega) (by simp;omega) ?_;intro I a B' z A C D E F;have h:dM a I (l++k) B':=by unfold dM;rw[List.map_append];exact C
 obtain⟨f,e,rfl,_⟩:=bY.form h;have v:((l++k).map bD).length=(l++k).length:=by simp
 rw[v]at h ⊢;exact t f e a B' z A h D ⟨λb s i=>E b i s,F⟩
theorem qj {g:Heap} {c:Nat} {vb:Value} {p:Int} (r:bC g c vb p) (hp:p<=80000000) :
  Dr prog 168 [.pointer (some ⟨c,0,none⟩)] g c vb p 100 λg' v=>∃ cs B,ep kY 2 g' v cs B/\Nd B/\(∀ b∈B,g b=none)/\bX cs:=by
 refine bE ax func168 SR U rfl ?_;conv=>whnf
 refine bN r O (λx x0 x1 x2 r1=>?_);conv=>whnf
 refine av ?_;conv=>whnf
 refine iM [.int .i64 1] r1 rfl (λe g1 O5 YP l1 r2 I=>?_);conv=>whnf
 refine iM [.int .i64 (-1),.slice none 0 0,.int .i64 0,.slice (some ⟨e,0,none⟩) 1 1] r2 rfl (λd z O6 NL l2 w e2=>?_);have YQ:d≠e:=by rintro rfl;rw[O6]at I;cases I
 have o2:ep kY 2 z (.slice (some ⟨d,0,none⟩) 2 2) [⟨-1,[]⟩,⟨0,[1]⟩] ([d]++([]++([e]++[]))):=by
  refine⟨[[.int .i64 (-1),.slice none 0 0],[.int .i64 0,.slice (some ⟨e,0,none⟩) 1 1]],[d],_,jV Z rfl (by simpa using e2),.cons ⟨_,rfl,Z,.inl ⟨rfl,rfl,rfl⟩⟩ (.cons ⟨_,rfl,?_⟩ .nil),rfl⟩;exact jV (by simp[bD]) rfl (by rw[l2 e _ I];rfl)
 have YR:Nd ([d]++([]++([e]++[]))):=λa=>by
  simp only[List.nil_append,List.append_nil,Y_,X_,List.count_nil];by_cases M:d=a
  ·have:¬e=a:=by omega
   simp[M,this]
  simp[M];split<;>omega
 have f2:∀ b∈[d]++([]++([e]++[])),g b=none:=λb h=>by
  simp at h;rcases h with rfl|rfl
  ·exact eW l1 O6
  exact O5
 have Vo:∀ i (q:i < ([⟨-1,[]⟩,⟨0,[1]⟩]:List dB).length),tF (2+x).toNat i ([⟨-1,[]⟩,⟨0,[1]⟩]:List dB)[i]:=λi q=>by
  have I0:i=0\/i=1:=by simp at q;omega
  rcases I0 with rfl|rfl
  ·exact⟨λt f=>by simp at f,λ_=>⟨rfl,rfl⟩,λo=>O,λo=>O,Z⟩
  exact⟨λt f=>by simp at f;subst f;exact .inl rfl,λo=>O,λ_=>⟨rfl,rfl⟩,λo=>O,Z⟩
 generalize hcs:([⟨-1,[]⟩,⟨0,[1]⟩]:List dB)=Vp at o2 Vo;have n2:Vp.length=2:=by rw[<-hcs];rfl
 conv=>whnf
 refine eF [0,3,4,5] [] (λy:Heap × Int × (Option Addr × Nat) × List dB × List Nat=>(y.2.2.2.1.length:Int)<=2+x/\2<=y.2.2.2.1.length/\g.le y.1/\bC y.1 c vb y.2.1/\p<=y.2.1/\y.2.1<=p+1+10*y.2.2.2.1.length/\ep kY 2 y.1 (.slice y.2.2.1.1 y.2.2.2.1.length y.2.2.1.2) y.2.2.2.1 y.2.2.2.2/\Nd y.2.2.2.2/\(∀ b∈y.2.2.2.2,g b=none)/\∀ i (q:i < y.2.2.2.1.length),tF (2+x).toNat i y.2.2.2.1[i]) (λy=>5-y.2.2.2.1.length)
  (λy=>([.v (.pointer (some ⟨c,0,none⟩)),.v (.int .i64 (2+x)),.v (.slice y.2.2.1.1 y.2.2.2.1.length y.2.2.1.2),.v (.int .i64 y.2.2.2.1.length)],[],cO y.1 c vb y.2.1))
  (z,p+1,(some ⟨d,0,none⟩,2),Vp,[d]++([]++([e]++[]))) ⟨by simp only;omega,by simp only;omega,y_ l1 l2,w,by simp only;omega,by simp only;omega,by simp only;rw[n2];exact o2,YR,f2,Vo⟩ (by simp only;rw[n2];rfl) ?_
 rintro⟨g3,q3,⟨pa,ca⟩,cs,B⟩ ⟨Q,G8,R,w,HB,GS,C,V,f3,O7⟩;simp only at Q G8 R w HB GS C V f3 O7 ⊢;conv=>whnf
 apply aC<;>intro g1;all_goals conv=>whnf
 ·refine bN w O (λF s0 s1 s2 r4=>?_);conv=>whnf
  refine bN r4 O (λk k0 k1 k2 r5=>?_);conv=>whnf
  have YS:=C.in S6;refine eF [0,3,4,5,6,7] [6] (λy:Heap × Int × Int × (Option Addr × Nat) × List Int × List Nat=>0<=y.2.2.1/\(y.2.2.2.2.1.length:Int)+y.2.2.1<=2/\g.le y.1/\bC y.1 c vb y.2.1/\p<=y.2.1/\y.2.1<=q3+2+2*y.2.2.2.2.1.length/\ep kY 2 y.1 (.slice pa cs.length ca) cs B/\dM y.1 (.slice y.2.2.2.1.1 y.2.2.2.2.1.length y.2.2.2.1.2) y.2.2.2.2.1 y.2.2.2.2.2/\Nd (B++y.2.2.2.2.2)/\(∀ b∈y.2.2.2.2.2,g b=none)/\fJ (2+x).toNat y.2.2.2.2.1) (λy=>y.2.2.1.toNat)
   (λy=>([.v (.pointer (some ⟨c,0,none⟩)),.v (.int .i64 (2+x)),.v (.slice pa cs.length ca),.v (.int .i64 cs.length),.l 6 0,.v (.int .i64 y.2.2.1)],[some [.int .i64 F,.slice y.2.2.2.1.1 y.2.2.2.2.1.length y.2.2.2.1.2]],cO y.1 c vb y.2.1))
   (g3,q3+1+1,k,(none,0),[],[]) ⟨k0,by simp only[List.length_nil];omega,R,r5,by simp only;omega,by simp only[List.length_nil];omega,C,⟨Z,.inl ⟨rfl,rfl,rfl⟩⟩,by simpa using V,Z,λt f=>by simp at f⟩ rfl ?_
  rintro⟨g6,X,k6,⟨fp,fc⟩,j,Bf⟩ ⟨L0,IV,S,E,CK,IY,D,w6,A,f6,t6⟩;simp only at L0 IV S E CK IY D w6 A f6 t6 ⊢;conv=>whnf
  apply aC<;>intro z;all_goals conv=>whnf
  ·have Hs:=me (2+x) E O O;have finish:∀ u t,bC g6 c vb u->X<=u->u<=X+2->bL (2+x) t->True:=λ_ _ _ _ _ _=>trivial;repeat' ((first|exact trivial|apply T_|refine ia E Hs (λv g7 u l7 r7 M h2 hA=>?_))<;>conv=>whnf)
   all_goals
    have YT:=hA.1;refine hA.2.elim λt f=>?_;have P:=f.1;have IQ:=f.2;subst P;subst YT;conv=>whnf
    refine sL (k:=[t]) (g0:=g) r r7 w6 f6 S rfl (by simp;omega) (λW H L G T Y s f8 J=>?_);conv=>whnf
    refine av ?_;conv=>whnf
    have YU:∀ b∈B,b ∉ Bf:=λb h Q=>by
     have:=A b;have:=W_.2 h;have:=W_.2 Q;simp only[Y_]at *;omega
    have YV:=D.in S6;have m:(j++[t]).length=j.length+1:=by simp
    refine cL (L,u,k6-1,(W,H),j++[t],G) ⟨by simp only;omega,by simp only;omega,T,Y,by simp only;omega,by simp only;omega,D.aK oB (J.aK YU),s,A.swap s.nd (λb h=>(J.new b h).imp id (λhn hm=>by obtain⟨aa,ho⟩:=YV b hm;rw[hn]at ho;cases ho)),f8,λt' YW=>?_⟩ (by simp only;omega) rfl;rcases u_.1 YW with N|N
    ·exact t6 t' N
    rw[V_.1 N];rw[show(((2+x).toNat:Nat):Int)=2+x by omega];exact IQ
  refine HA oB S6 (a:=⟨F,j⟩) r E D ⟨_,rfl,w6⟩ A (λb h=>(u_.1 h).elim (f3 b) (f6 b)) S rfl rfl rfl rfl (Nat.le_trans (Nat.mul_le_mul_left _ (show _<=100 from Nat.le_of_ble_eq_true rfl)) O) O (λv L G T Y s YX f8 J=>?_);have K:=s.form;refine K.elim λW K=>K.elim λH hf=>?_;have P:=hf.1;subst P;conv=>whnf
  refine av ?_;conv=>whnf
  have m:(cs++[(⟨F,j⟩:dB)]).length=cs.length+1:=by simp
  refine cL (L,X,(W,H),cs++[⟨F,j⟩],G) ⟨by simp only[m];omega,by simp only[m];omega,T,Y,by simp only;omega,by simp only[m];omega,s,YX,f8,λi q=>?_⟩ (by simp only[m];omega) (by simp only[m];rfl);by_cases mC:i < cs.length
  ·simp only[List.getElem_append_left mC];exact O7 i mC
  have yH:i=cs.length:=by simp only[m]at q;omega
  subst yH;simp only[List.getElem_append_right (Nat.le_refl _),Nat.sub_self,List.getElem_cons_zero];have:=s1 O;exact⟨t6,λo=>O,λo=>O,λ_=>⟨s0,this⟩,by show j.length<=2;omega⟩
 have YY:(2+x).toNat=cs.length:=by omega
 rw[YY]at O7;exact⟨_,_,rfl,R,w.free,O,O,cs,B,C,V,f3,G8,O,O7⟩
def nX (h:Heap) (v:Value) (l:List Int) (B:List Nat):Prop:=(v=.slice none 0 0/\l=[]/\B=[])\/∃ b r t,v=.slice (some ⟨b,0,none⟩) l.length (l++r).length/\h b=some (.cells ((l++r).map (Value.int .i64)).toArray t (0,0))/\(∀ x∈l++r,cy x)/\B=[b]
theorem nX.own {h:Heap} {v:Value} {l:List Int} {B:List Nat} (c:nX h v l B):dM h v l B:=by
 rcases c with ⟨rfl,rfl,rfl⟩|⟨b,r,t,rfl,a,_,rfl⟩
 ·exact⟨Z,.inl ⟨rfl,rfl,rfl⟩⟩
 refine⟨λx d=>by obtain⟨w,_,rfl⟩:=List.mem_map.1 d;rfl,.inr ⟨b,(l++r).length,r.map (Value.int .i64),t,Z,Z,?_,by rw[dj];simp,rfl⟩⟩;rw[dj,<-List.map_append];exact a
theorem nX.aK {h a:Heap} {v:Value} {l:List Int} {B:List Nat} (g:cS h a B) (i:nX h v l B):nX a v l B:=by
 rcases i with e|⟨b,r,t,c,f,d,rfl⟩
 ·exact .inl e
 exact .inr ⟨b,r,t,c,g b Z _ f,d,rfl⟩
theorem NM {q:TypeId} {h0 h:Heap} {p:Option Addr} {n cap m:Nat} {l k:List Int} {B:List Nat} {K:Value->Heap->Prop} (P:nX h (.slice p n cap) l B) (v:∀ b∈B,h0 b=none) (hle:h0.le h) (N:m=k.length) (z:∀ x∈k,cy x) (D:l.length+k.length<=1000000)
  (t:∀ G j B',h0.le j->nX j G (l++k) B'->(∀ b∈B',h0 b=none)->Ev h j B B'->K G j):App 8 1 [.int .i64 0] q h p n cap m (k.map (Value.int .i64)) K:=by
 subst N;have w:=cR k;have y:∀ b,h b=none->h0 b=none:=λb a=>by
  cases I:h0 b with
  | none=>rfl
  | some x=>rw[hle b x I]at a;cases a
 have u:∀ b c (r:List Int),h b=none->(l++k).length<=c->r=List.replicate (c-(l++k).length) 0->(∀ x∈l,cy x)->K (.slice (some ⟨b,0,none⟩) (l++k).length c) (h.set b (.cells ((l++k++r).map (Value.int .i64)).toArray q)):=λb c r a H C o=>by
  refine t _ _ [b] (Heap.aT hle (y b a)) (.inr ⟨b,r,q,?_,cY _ _ _,λx d=>?_,rfl⟩) (λe g=>by rw[V_.1 g];exact y b a) ⟨λe A _=>?_,λe g=>?_⟩
  ·rw[C];simp at H ⊢;omega
  ·simp only[u_]at d;rcases d with (d|d)|d
   ·exact o x d
   ·exact z x d
   rw[C]at d;rw[List.eq_of_mem_replicate d];unfold cy;omega
  ·have:e≠b:=by rintro rfl;exact A a
   simp[Heap.set,this]
  rw[V_.1 g];exact .inr a
 have M:(l++k).length=l.length+k.length:=by simp
 have E:∀ c,(List.replicate c [Value.int .i64 0]).flatten=(List.replicate c (0:Int)).map (Value.int .i64):=λc=>by
  induction c with
  | zero=>rfl
  | succ c R=>rw[List.replicate_succ,List.flatten_cons,R,List.replicate_succ,List.map_cons];rfl
 rw[lG];unfold vV;rcases P with ⟨i,rfl,rfl⟩|⟨b,r,F,i,a,d,rfl⟩
 ·simp only[Z_]at i;obtain⟨rfl,rfl,rfl⟩:=i;refine⟨λf=>⟨w,?_⟩,λf=>⟨O,O,[],⟨rfl,rfl⟩,λb c a s=>?_⟩⟩
  ·have J:k=[]:=List.eq_nil_of_length_eq_zero O;subst J;exact⟨rfl,t _ _ [] hle (.inl ⟨rfl,rfl,rfl⟩) Z (Ev.refl h [])⟩
  have:=u b c (List.replicate (c-k.length) 0) a (by simpa using s) Z Z;simp only[List.nil_append,List.map_append]at this ⊢;rw[Nat.zero_add,E];exact this
 simp only[Z_]at i;obtain⟨rfl,rfl,rfl⟩:=i;have o:∀ x∈l,cy x:=λx h=>d x (by simp[h]);refine⟨λf=>⟨w,_,F,a,by simp at f ⊢;omega,?_⟩,λf=>⟨O,O,l.map (Value.int .i64),?_,λe c g s=>?_⟩⟩
 ·have L:k.length<=r.length:=by simp at f;omega
  have Q:eH ((l++r).map (Value.int .i64)) (0+l.length*1) (k.map (Value.int .i64))=((l++k)++r.drop k.length).map (Value.int .i64):=by
   rw[Nat.zero_add,Nat.mul_one,List.map_append];have:=fE (k.map (Value.int .i64)) (l.map (Value.int .i64)) (r.map (Value.int .i64)) (by simpa using L);rw[List.length_map,List.length_map]at this;rw[this];simp
  refine t _ _ [b] (Heap.aT hle (v b Z)) (.inr ⟨b,r.drop k.length,F,?_,?_,λx h=>?_,rfl⟩) v ⟨λe A D=>?_,λe h=>.inl h⟩
  ·simp;omega
  ·rw[<-Q];exact cY _ _ _
  ·simp only[u_]at h;rcases h with (h|h)|h
   ·exact o x h
   ·exact z x h
   exact d x (by simp[List.mem_of_mem_drop h])
  have:e≠b:=by rintro rfl;exact D Z
  simp[Heap.set,this]
 ·show dP h b 0 (l.length*1)=some _;rw[bA a _ _ Z];simp
 have:=u e c (List.replicate (c-(l.length+k.length)) 0) g (by simpa using s) Z o;simp only[List.map_append,List.append_assoc]at this ⊢;rw[E];rw[M]at this;exact this
theorem NN {g d:Heap} {a:Nat} {vb:Value} {q:Int} {B B':List Nat} (m:g a=none) (t:∀ b∈B,∃ o,g b=some o) (f:Ev (cO g a vb q) d B B'):d=cO (aV d a) a vb q/\Ev g (aV d a) B B'/\cS d (aV d a) B':=by
 obtain⟨o,i⟩:=ng g a vb q;have p:a ∉ B:=λj=>by obtain⟨o,c⟩:=t a j;rw[m]at c;cases c
 have v:d a=cO g a vb q a:=f.sr a (by rw[i];simp) p;have u:a ∉ B':=λj=>by
  rcases f.new a j with c|c
  ·exact p c
  rw[i]at c;cases c
 refine⟨kW v,⟨λb s x=>?_,λb h=>?_⟩,λb h o w=>?_⟩
 ·have e:b≠a:=by rintro rfl;exact s m
  unfold aV;rw[if_neg e,f.sr b (by rw[fH e];exact s) x,fH e]
 ·rcases f.new b h with c|c
  ·exact .inl c
  have e:b≠a:=by rintro rfl;rw[i]at c;cases c
  rw[fH e]at c;exact .inr c
 have:b≠a:=by rintro rfl;exact u h
 unfold aV;rw[if_neg this];exact w
theorem aW {g0 g:Heap} {b:Nat} (c:g0.le g) (a:g b=none):g0 b=none:=by
 cases d:g0 b with
 | none=>rfl
 | some o=>have:=c b o d;rw[a]at this;cases this
theorem nX.in {h:Heap} {v:Value} {l:List Int} {B:List Nat} (a:nX h v l B):∀ b∈B,∃ o,h b=some o:=a.own.in
theorem nX.form {h:Heap} {v:Value} {l:List Int} {B:List Nat} (a:nX h v l B):∃ p c,v=.slice p l.length c:=by
 rcases a with ⟨rfl,rfl,_⟩|⟨b,r,t,rfl,_⟩
 ·exact⟨_,_,rfl⟩
 exact⟨_,_,rfl⟩
theorem HC {z:TypeId} {g0 g:Heap} {a:Nat} {vb:Value} {M q:Int} {p:Option Addr} {n c m:Nat} {l k:List Int} {B:List Nat} {K:Value->Heap->Prop} (N:bC g0 a vb M) (r:bC g a vb q) (o:nX g (.slice p n c) l B) (C:∀ b∈B,g0 b=none) (h:g0.le g) (F:m=k.length) (D:∀ x∈k,cy x) (G:l.length+k.length<=1000000)
  (E:∀ f e d B',g0.le d->bC d a vb q->nX d (.slice f (l++k).length e) (l++k) B'->(∀ b∈B',g0 b=none)->Ev g d B B'->K (.slice f (l++k).length e) (cO d a vb q)):App 8 1 [.int .i64 0] z (cO g a vb q) p n c m (k.map (Value.int .i64)) K:=by
 have j:=eE (vb:=vb) (p:=q) r.free;refine NM (h0:=g0) (o.aK (cS.of_le j _)) C (y_ h j) F D G ?_;intro P A B' H I J L;obtain⟨v,w,y⟩:=NN r.free o.in L;have i:g0.le (aV A a):=qf H (aW h r.free);have s:=I.aK y;obtain⟨f,e,rfl⟩:=s.form;rw[v];exact E f e _ B' i ⟨by simp[aV],by obtain⟨n,t,u⟩:=N.bytes;exact⟨n,t.le i,u⟩,r.lo⟩ s J w
def nY (h:Heap) (a:Value) (l:List Int):Prop:=∃ B,nX h a l B
def Fk (h0 h:Heap) (a:Value) (l:List Int):Prop:=∃ B,nX h a l B/\∀ b∈B,h0 b=none
theorem Fk.S7 {h0 h:Heap} {a:Value} {l:List Int} (z:Fk h0 h a l):nY h a l:=by
 obtain⟨B,b,_⟩:=z;exact⟨B,b⟩
theorem Fk.aV {h0 h:Heap} {a:Value} {l:List Int} {b:Nat} (z:Fk h0 h a l) (e:h0 b≠none):nY (aV h b) a l:=by
 obtain⟨B,c,d⟩:=z;refine⟨B,c.aK λx g o f=>?_⟩;have:x≠b:=by rintro rfl;exact e (d _ g)
 unfold Go.Proofs.aV;rw[if_neg this];exact f
def dV (cls eu:Int) (a:Value) (out b:Int):List Value:=[.int .i64 cls,.int .i64 eu,a,.int .i64 out,.int .i64 b,.slice none 0 0,.slice none 0 0,.slice none 0 0]
theorem qk {h:Heap} {b:Nat} {vb:Value} {p:Int} (n:Nat) (r:bC h b vb p) (hp:p<=80000000) (hn:1<=n/\n<=1000) :
  Dr prog 213 [.pointer (some ⟨b,0,none⟩),.int .i64 n] h b vb p 10 λx v=>∃ a out l,v=.agg ⟨dV 0 0 a out 0⟩/\Fk h x a l/\l.length<=2/\fJ n l/\bL n out:=by
 refine bE ax func213 SV U rfl ?_;conv=>whnf
 refine ia r (me n r O O) (λv d S l1 q B C e=>?_);obtain⟨rfl,out,rfl,c⟩:=e;conv=>whnf
 refine bN q O (λk M k1 k2 V=>?_);conv=>whnf
 refine eF [0,1,4,5,6] [4,5] (λy:Heap × Int × Int × (Option Addr × Nat) × List Int × List Nat=>0<=y.2.2.1/\(y.2.2.2.2.1.length:Int)+y.2.2.1<=2/\d.le y.1/\bC y.1 b vb y.2.1/\p<=y.2.1/\y.2.1<=p+4+2*y.2.2.2.2.1.length/\nX y.1 (.slice y.2.2.2.1.1 y.2.2.2.2.1.length y.2.2.2.1.2) y.2.2.2.2.1 y.2.2.2.2.2/\(∀ u∈y.2.2.2.2.2,d u=none)/\fJ n y.2.2.2.2.1) (λy=>y.2.2.1.toNat)
  (λy=>([.v (.pointer (some ⟨b,0,none⟩)),.v (.int .i64 n),.l 4 0,.l 5 0,.v (.int .i64 y.2.2.1)],[some (dV 0 0 (.slice none 0 0) 0 0),some (dV 0 0 (.slice y.2.2.2.1.1 y.2.2.2.2.1.length y.2.2.2.1.2) out 0)],cO y.1 b vb y.2.1))
  (d,S+1,k,(none,0),[],[]) ⟨M,by simp only[List.length_nil];omega,z_ _,V,by simp only;omega,by simp only[List.length_nil];omega,.inl ⟨rfl,rfl,rfl⟩,Z,λt c=>by simp at c⟩ rfl ?_
 rintro⟨g6,q6,N,⟨fp,fc⟩,g,Bf⟩ ⟨F,G,j,f,H,I,m,f6,t6⟩;simp only at F G j f H I m f6 t6 ⊢;conv=>whnf
 apply aC<;>intro z;all_goals conv=>whnf
 ·have D:=me n f O O;repeat' ((first|exact trivial|apply T_|refine ia f D (λv g7 T l7 W B C e=>?_))<;>conv=>whnf)
  all_goals
   have E:=e.1;refine e.2.elim λt c=>?_;have K:=c.1;have o:=c.2;subst K;subst E;conv=>whnf
   refine HC (k:=[t]) (g0:=d) q W m f6 j rfl (λaa L=>by rw[V_.1 L];unfold bL at o;unfold cy;omega) (by simp;omega) (λR w A s P X Q f8 ev8=>?_);conv=>whnf
   refine av ?_;conv=>whnf
   have lf:(g++[t]).length=g.length+1:=by simp
   refine cL (A,T,N-1,(R,w),g++[t],s) ⟨by simp only;omega,by simp only;omega,P,X,by simp only;omega,by simp only;omega,Q,f8,λY J=>?_⟩ (by simp only;omega) rfl;rcases u_.1 J with i|i
   ·exact t6 Y i
   rw[V_.1 i];exact o
 exact⟨_,_,rfl,j,f.free,O,O,_,_,_,rfl,⟨_,m,f6⟩,O,t6,c⟩
def y5 {c:Type} (R:Heap->List Value->c->Prop):Prop:=∀(h b:Heap) (x:List Value) (a:c),h.le b->R h x a->R b x a
structure ql {α:Type} (sz:Nat) (R:Heap->List Value->α->Prop) (h0 h:Heap) (b c:Nat) (A:List α):Prop where
 le:h0.le h
 fr:h0 b=none
 row:∃ recs,bY sz h (.slice (some ⟨b,0,none⟩) A.length c) recs [b]/\recs.length=A.length/\∀ i (h1:i < recs.length) (h2:i < A.length),R (aV h b) recs[i] A[i]
variable {α:Type} {sz:Nat} {R:Heap->List Value->α->Prop} {h0 h h':Heap} {b c:Nat} {A:List α}
theorem ql.in (a:ql sz R h0 h b c A):∃ o,h b=some o:=by
 obtain⟨e,d,_⟩:=a.row;exact d.in b Z
theorem ql.aK (g:y5 R) (a:ql sz R h0 h b c A) (d:h.le h'):ql sz R h0 h' b c A:=by
 obtain⟨p,j,i,m⟩:=a.row;exact⟨y_ a.le d,a.fr,p,j.aK (cS.of_le d _),i,λo e f=>g _ _ _ _ (bQ b d) (m o e f)⟩
theorem ql.at (a:ql sz R h0 h b c A) {i:Nat} (B:i < A.length) :
  ∃ vs,dP h b (0+i*sz) sz=some vs/\vs.length=sz/\R (aV h b) vs A[i] /\
   ∃ pre post t,h b=some (.cells (pre++vs++post).toArray t (0,0))/\pre.length=i*sz /\
   ∀(o:List Value) (s:α) (e:Heap),o.length=sz->e=h.set b (.cells (pre++o++post).toArray t (0,0))->R (aV h b) o s->aV e b=aV h b/\ql sz R h0 e b c (A.set i s):=by
 obtain⟨d,E,D,w⟩:=a.row;have u:i < d.length:=by omega
 have C:d=d.take i++d[i]::d.drop (i+1):=by simp
 have F:bY sz h (.slice (some ⟨b,0,none⟩) A.length c) (d.take i++d[i]::d.drop (i+1)) [b]:=by rw[<-C];exact E
 obtain⟨M,N,pre,post,x,v,p,G,m,P,L⟩:=F.at;simp only[Z_,v_,Addr.mk.injEq]at v;obtain⟨⟨rfl,_⟩,_,rfl⟩:=v;have j:pre.length=i*sz:=by rw[G,List.length_take,Nat.min_eq_left O]
 refine⟨d[i],?_,m,w i u B,pre,post,x,p,j,λvs s g J f H=>?_⟩
 ·rw[bA p sz (0+i*sz) (by simp[j,m])];rw[List.append_assoc,Nat.zero_add,<-j,List.drop_left,List.take_left' m]
 have q:aV g b=aV h b:=by rw[f,tZ]
 have y:g b=some (.cells (pre++vs++post).toArray x (0,0)):=by rw[f];exact cY _ _ _
 have I:d.set i vs=d.take i++vs::d.drop (i+1):=by rw[List.set_eq_take_append_cons_drop,if_pos u]
 refine⟨q,?_,a.fr,d.set i vs,?_,by simp[D],λK z e=>?_⟩
 ·rw[f];exact Heap.aT a.le a.fr
 ·rw[I,List.length_set];exact L g vs y J
 rw[q];simp only[List.getElem_set];split
 ·exact H
 exact w K (by simpa using z) (by simpa using e)
theorem ql.mb (p:y5 R) {f:Nat} {vb:Value} {Q q:Int} {n bytes:Nat} {zero:List Value} {y:TypeId} {vs:List Value} {s:α} {K:Value->Heap->Prop} (S:bC h0 f vb Q) (r:bC h f vb q) (a:ql sz R h0 h b c A) (g:n=A.length) (N:R (aV h b) vs s) (M:vs.length=sz) (D:dI vs=true) (hA:A.length<=1000) (P:zero.length=sz) (C:bytes<=1000)
  (F:∀ d i h',ql sz R h0 h' d i (A++[s])->(aV h b).le (aV h' d)->bC h' f vb q->K (.slice (some ⟨d,0,none⟩) (A.length+1) i) (cO h' f vb q)):App bytes sz zero y (cO h f vb q) (some ⟨b,0,none⟩) n c 1 vs K:=by
 subst g;obtain⟨m,J,g,L⟩:=a.row;have hm:(m.length + [vs].length)*bytes<=1001*1000:=Nat.mul_le_mul (by simp;omega) C;refine Go.Proofs.mb S r (xs:=m) (ys:=[vs]) (B:=[b]) J (by simpa using a.fr) a.le Z rfl (by simpa using M) D P O (by simp;omega) ?_;intro v' h' B' T Y v V W X;have w:=v;obtain⟨e,⟨_,H,_⟩|⟨d,i,rest,ab,rfl,hc,MQ,_,rfl⟩⟩:=v
 ·simp at H
 have G:(m++[vs]).length=A.length+1:=by simp[g]
 rw[G]at w ⊢;have hle:(aV h b).le (aV h' d):=λx aa e=>by
  unfold aV at e ⊢;split at e
  ·cases e
  rename_i u;have I:x≠d:=by
   rintro rfl;rcases X x Z with j|j
   ·exact u (by simpa using j)
   rw[j]at e;cases e
  rw[if_neg I,W x (by simpa using u) (by rw[e];simp)];exact e
 refine F d i h' ⟨T,V d Z,m++[vs],by simpa using w,by simp[g],λo j z=>?_⟩ hle Y;by_cases t:o < A.length
 ·rw[List.getElem_append_left O,List.getElem_append_left t];exact p _ _ _ _ hle (L o O t)
 have E:o=A.length:=by simp at z;omega
 subst E;rw[List.getElem_append_right O,List.getElem_append_right O];simp only[g,Nat.sub_self,List.getElem_cons_zero];exact p _ _ _ _ hle N
theorem xm {g:Heap} {a b:Nat} {vb:Value} {q:Int} {o:Obj} (h:b≠a):(cO g a vb q).set b o=cO (g.set b o) a vb q:=by
 funext x
 unfold cO;simp only[Heap.set];by_cases d:x=b
 ·have:x≠a:=by rw[d];exact h
  simp[d,h]
 simp[d]
theorem j4 {g:Heap} {a b off:Nat} {vb:Value} {q:Int} {cs d vs:List Value} {t:TypeId} {K:Heap->Prop} (j:g a=none) (e:g b=some (.cells cs.toArray t (0,0))) (o:off+vs.length<=cs.length) (p:eH cs off vs=d)
  (m:K (cO (g.set b (.cells d.toArray t (0,0))) a vb q)):St (cO g a vb q) b off vs K:=by
 have f:b≠a:=by rintro rfl;rw[j]at e;cases e
 refine Bv (h:=cO g a vb q) (b:=b) (by rw[fH f];exact e) d o p (λu i s=>?_);rw[i,xm f];exact m
def O8 (h:Heap) (d:List Value) (m:bT):Prop:=∃ a,d=dV m.cls m.eu a m.out m.locals/\nY h a m.args/\m.code=[]/\m.aF=[]/\m.catches=[]
theorem nY.le {h h':Heap} (e:h.le h') {a:Value} {l:List Int} (d:nY h a l):nY h' a l:=by
 obtain⟨B,d⟩:=d;exact⟨B,d.aK (cS.of_le e _)⟩
theorem nY.ints {h:Heap} {a:Value} {l:List Int} (d:nY h a l) (i:l.length<=1000):bP h a l:=by
 obtain⟨B,d⟩:=d;rcases d with ⟨rfl,rfl,rfl⟩|⟨b,r,t,rfl,e,f,rfl⟩
 ·exact dX _ _ _
 refine gA (rest:=r.map (Value.int .i64)) (t:=t) (fz:=(0,0)) ?_ O Z (λt g=>f t (by simp[g]));rw[<-List.map_append];exact e
theorem nY.form {h:Heap} {a:Value} {l:List Int} (d:nY h a l):∃ p c,a=.slice p l.length c:=by
 obtain⟨B,d⟩:=d;exact d.form
theorem iN:y5 O8:=λh h' x m g i=>by
 obtain⟨a,d,e,f⟩:=i;exact⟨a,d,e.le g,f⟩
theorem oW {L:List Value} {n:Nat} {K:List Value->Prop} (h:L.length=n) (a:K L):iG L (λvs=>match vs.length.beq n with
  | true=>K vs
  | false=>False):=by
 refine(bF _ _).2 ?_;subst h;rw[Nat.beq_refl];exact a
theorem Fl {o:Option (List Value)} {cs:List Value} {K:List Value->Prop}:o=some cs->K cs->(match o with
  | some cs=>K cs
  | none=>False):=λa d=>by subst a;exact d
theorem CW {e:Env} {ty:Nat->Option TI} {K:List (Nat × List Value)->Prop} (a:K []):parts e ty [] K:=a
theorem NO {z a d e:List Value} {k:Nat} (f:z.length=k) (g:a.length=k) (q:d.length=k) (s:e.length=k):lF (λi=>some (i*k)) (sg 3 z) [(0,a),(1,d),(2,e)]=some (a++d++e):=by
 have p:sg 3 z=[]++(z++(z++(z++[]))):=rfl;have t:eH (sg 3 z) (0*k) a=a++(z++z):=by
  rw[p];have:=fE a [] (z++(z++(z++[]))) (by simp;omega);simp only[List.length_nil]at this;rw[Nat.zero_mul,this,g,<-f,List.drop_left];simp
 have u:eH (a++(z++z)) (1*k) d=(a++d)++z:=by
  have:=fE d a (z++z) (by simp;omega);rw[Nat.one_mul,<-g,this,q,<-f,List.drop_left]
 have v:eH ((a++d)++z) (2*k) e=a++d++e:=by
  have:=fE e (a++d) z O;rw[show 2*k=(a++d).length by simp;omega,this,s,<-f,List.drop_length,List.append_nil]
 have j:(0*k+a.length).ble (sg 3 z).length=true:=Nat.ble_eq_true_of_le (by simp[sg];omega);have m:(1*k+d.length).ble (a++(z++z)).length=true:=Nat.ble_eq_true_of_le (by simp;omega);have o:(2*k+e.length).ble ((a++d)++z).length=true:=Nat.ble_eq_true_of_le (by simp;omega);simp only[lF,j,t,m,u,o,v]
def vI (n:Nat) (m:bT):Prop:=eC n m/\m.cls≠0
theorem AO {K:Heap} {j:Nat} {vb:Value} {p:Int} (cp:Option Addr) (n cc:Nat) (r:bC K j vb p) (hp:p<=70000000) (hn:2<=n/\n<=5) :
  Dr prog 169 [.pointer (some ⟨j,0,none⟩),.slice cp n cc] K j vb p 200 λg' v=>∃ b c a,v=.slice (some ⟨b,0,none⟩) a.length c/\ql 8 O8 K g' b c a/\1<=a.length/\a.length<=4/\∀ m∈a,vI n m:=by
 refine bE ax func169 SS U rfl ?_;conv=>whnf
 refine ia r (qk n r O O) (λv g1 q1 l1 r1 h1 h2 L=>?_);obtain⟨a1,x,t,rfl,z1,n1,t1,f1⟩:=L;have z1:=z1.S7;have S8:(dV 0 0 a1 x 0).length=8:=rfl;generalize S9:dV 0 0 a1 x 0=L1 at S8;conv=>whnf
 refine ia r1 (qk n r1 O O) (λv g2 q2 l2 r2 h3 h4 L=>?_);obtain⟨a2,B,u,rfl,z2,n2,t2,f2⟩:=L;have z2:=z2.S7;have Ta:(dV 0 0 a2 B 0).length=8:=rfl;generalize Tb:dV 0 0 a2 B 0=L2 at Ta;conv=>whnf
 refine ia r2 (qk n r2 O O) (λv g3 q3 l3 r3 h5 h6 L=>?_);obtain⟨N,Q,k3,rfl,z3,n3,t3,f3⟩:=L;have z3:=z3.S7;have Tc:(dV 0 0 N Q 0).length=8:=rfl;generalize Td:dV 0 0 N Q 0=L3 at Tc;conv=>whnf
 refine oW S8 ?_;conv=>whnf
 refine oW Ta ?_;conv=>whnf
 refine oW Tc ?_;refine CW ?_;refine Fl (NO (k:=8) (z:=[.int .i64 0,.int .i64 0,.slice none 0 0,.int .i64 0,.int .i64 0,.slice none 0 0,.slice none 0 0,.slice none 0 0]) rfl S8 Ta Tc) ?_;conv=>whnf
 refine(bF _ _).2 ?_;conv=>whnf
 refine bN r3 O (λaa x0 x1 x2 r5=>?_);conv=>whnf
 refine av ?_;conv=>whnf
 refine iM (dV (-1) 0 (.slice none 0 0) 1 (1+aa)) r5 rfl (λW g5 LH nbm l5 S e5=>?_);conv=>whnf
 refine bN S O (λk YZ kk1 kk2 r7=>?_);conv=>whnf
 subst S9 Tb Td;have Te:K.le g5:=y_ l1 (y_ l2 (y_ l3 l5));have Y0:K W=none:=aW (y_ l1 (y_ l2 l3)) LH;have a5:ql 8 O8 K g5 W 1 [⟨-1,0,[],1,1+aa,[],[],[]⟩]:=⟨Te,Y0,[dV (-1) 0 (.slice none 0 0) 1 (1+aa)],jV (by simp[dV]) rfl (by rw[e5];rfl),rfl,λi h1 h2=>by
  have h0:i=0:=by simp at h2;omega
  subst h0;exact⟨.slice none 0 0,rfl,⟨[],.inl ⟨rfl,rfl,rfl⟩⟩,rfl,rfl,rfl⟩⟩
 have Y1:∀ m∈[(⟨-1,0,[],1,1+aa,[],[],[]⟩:bT)],vI n m:=λm e=>by
  rw[V_.1 e];exact⟨⟨.inl ⟨rfl,rfl⟩,Z,.inl rfl,λab ht=>(by simp at ht),by simp only;omega,by simp[br];omega⟩,Z⟩
 have Vq:g3.le (aV g5 W):=qf l5 LH;have MG:=z1.le (y_ l2 (y_ l3 Vq));have Vr:=z2.le (y_ l3 Vq);clear z1 z2 z3;obtain⟨s1,d1,rfl⟩:=MG.form;obtain⟨s2,d2,rfl⟩:=Vr.form;refine eF [0,5,6,7,8] [25] (λy:Heap × Int × Int × (Nat × Nat) × List bT=>0<=y.2.2.1/\(y.2.2.2.2.length:Int)+y.2.2.1<=4/\(aV g5 W).le (aV y.1 y.2.2.2.1.1)/\bC y.1 j vb y.2.1/\p<=y.2.1/\y.2.1<=p+40+20*(3-y.2.2.1)/\ql 8 O8 K y.1 y.2.2.2.1.1 y.2.2.2.1.2 y.2.2.2.2/\1<=y.2.2.2.2.length/\∀ m∈y.2.2.2.2,vI n m) (λy=>y.2.2.1.toNat)
  (λy=>([.v (.pointer (some ⟨j,0,none⟩)),.v (.int .i64 n),.r 25 3,.v (.slice (some ⟨y.2.2.2.1.1,0,none⟩) y.2.2.2.2.length y.2.2.2.1.2),.v (.int .i64 y.2.2.1)],[some (dV 0 0 (.slice s1 t.length d1) x 0++dV 0 0 (.slice s2 u.length d2) B 0++dV 0 0 N Q 0)],cO y.1 j vb y.2.1))
  (g5,q3+1+1,k,(W,1),[⟨-1,0,[],1,1+aa,[],[],[]⟩]) ⟨YZ,by simp only[List.length_singleton];omega,z_ _,r7,by simp only;omega,by simp only;omega,a5,Z,Y1⟩ rfl ?_
 rintro⟨g6,q6,F,⟨f,P⟩,a⟩ ⟨L0,IV,G,S,CK,IY,q,n6,t6⟩;simp only at L0 IV G S CK IY q n6 t6 ⊢;conv=>whnf
 apply aC<;>intro g2;all_goals conv=>whnf
 ·refine ia S (qk n S O O) (λv E o g r7 h7 h8 L=>?_);obtain⟨aN,Fm,M,rfl,zN,nN,tN,fN⟩:=L;obtain⟨o6,zA⟩:=q.in;have Vs:=zN.aV (b:=f) (by rw[zA];simp);obtain⟨sN,dN,rfl⟩:=Vs.form;conv=>whnf
  refine bN r7 O (λad w0 w1 w2 r8=>?_);conv=>whnf
  apply aC<;>intro gw;all_goals conv=>whnf
  ·refine bN r8 O (λsl s0 s1' s2' J=>?_);have IM:sl=0\/sl=1:=by omega
   rcases IM with rfl|rfl
   ·conv=>whnf
    refine ay ?_;conv=>whnf
    refine av ?_;conv=>whnf
    refine bN J O (λD Y2 Tf Y3 MD=>?_);have KF:=Tf O;conv=>whnf
    refine av ?_;conv=>whnf
    refine dm ?_;conv=>whnf
    repeat' ((first|exact trivial|apply T_|refine av ?_|refine bN MD O (λy y0 y1 y2 C=>?_))<;>conv=>whnf)
    all_goals
     obtain⟨d,I⟩:∃ z:Int,z=mn (1+t.length+y) 3:=⟨_,rfl⟩
     have Fo:1+t.length<=d/\d<=3:=by rw[I];unfold mn;split<;>omega
     rw[<-I];conv=>whnf
     refine eF [0,5,6,7,8,9,12,13] [9,25] (λy:Nat × Bool=>y.1<=a.length) (λy=>a.length-y.1)
      (λy=>([.v (.pointer (some ⟨j,0,none⟩)),.v (.int .i64 n),.r 25 3,.v (.slice (some ⟨f,0,none⟩) a.length P),.v (.int .i64 F),.l 9 0,.v (.bool y.2),.v (.int .i64 y.1)],[some (dV (1+D) 0 (.slice s1 t.length d1) x d),some (dV 0 0 (.slice s1 t.length d1) x 0++dV 0 0 (.slice s2 u.length d2) B 0++dV 0 0 N Q 0)],cO E j vb (o+1+1+1+1)))
      (0,false) (by simp only;omega) rfl ?_
     rintro⟨i,again⟩ hi;simp only at hi ⊢;conv=>whnf
     apply aC<;>intro g8;all_goals conv=>whnf
     ·have mC:i < a.length:=by omega
      obtain⟨rec,Y,OS,⟨am,Fp,_⟩,_⟩:=(q.aK iN g).at mC;have H:=eT (eE (vb:=vb) (p:=(o+1+1+1+1)) C.free) _ _ _ Y;subst Fp;have rc:=aJ H (i:=0) rfl;have rs:=aJ H (i:=1) rfl;have NP:rd (cO E j vb (o+1+1+1+1)) f (0+i*8)=_:=rc;cases again
      all_goals
       repeat' ((first|exact trivial|apply T_|apply aC<;>intro _|refine ay ?_|refine ptr ?_|refine ld NP ?_|refine ld rs ?_)<;>conv=>whnf)
      all_goals
       refine av ?_;conv=>whnf
       first
       | exact cL (i+1,true) (by simp only;omega) (by simp only;omega) rfl
       | exact cL (i+1,false) (by simp only;omega) (by simp only;omega) rfl
       | (refine cL (i+1,_) (by simp only;omega) (by simp only;omega) rfl)
     have hT:vI n ⟨(1+D),0,t,x,d,[],[],[]⟩:=⟨⟨(.inr ⟨by simp only;omega,by simp only;omega,by simp only;omega,by simp only;omega⟩),n1,f1,t1,Fo.2,by (simp[br];split<;>simp<;>omega)⟩,by simp only;omega⟩
     cases again
     ·conv=>whnf
      refine(q.aK iN g).mb iN (s:=⟨(1+D),0,t,x,d,[],[],[]⟩) r C rfl ⟨_,rfl,MG.le (y_ G (bQ f g)),rfl,rfl,rfl⟩ rfl rfl O rfl (Nat.le_of_ble_eq_true rfl) (λV X g9 T l9 J=>?_);conv=>whnf
      refine av ?_;conv=>whnf
      have w:(a++[(⟨(1+D),0,t,x,d,[],[],[]⟩:bT)]).length=a.length+1:=by simp
      refine cL (g9,(o+1+1+1+1),F-1,(V,X),a++[⟨(1+D),0,t,x,d,[],[],[]⟩]) ⟨by simp only;omega,by simp only[w];omega,y_ G (y_ (bQ f g) l9),J,by simp only;omega,by simp only;omega,T,by simp only[w];omega,λm e=>?_⟩ (by simp only;omega) (by simp only[w];rfl);rcases u_.1 e with e|e
      ·exact t6 m e
      rw[V_.1 e];exact hT
     conv=>whnf
     refine av ?_;conv=>whnf
     exact cL (E,(o+1+1+1+1),F-1,(f,P),a) ⟨by simp only;omega,by simp only;omega,y_ G (bQ f g),C,by simp only;omega,by simp only;omega,q.aK iN g,n6,t6⟩ (by simp only;omega) rfl
   conv=>whnf
   refine ay ?_;conv=>whnf
   refine av ?_;conv=>whnf
   refine bN J O (λD Y2 Tf Y3 MD=>?_);have KF:=Tf O;conv=>whnf
   refine av ?_;conv=>whnf
   refine dm ?_;conv=>whnf
   repeat' ((first|exact trivial|apply T_|refine av ?_|refine bN MD O (λy y0 y1 y2 C=>?_))<;>conv=>whnf)
   all_goals
    obtain⟨d,I⟩:∃ z:Int,z=mn (1+u.length+y) 3:=⟨_,rfl⟩
    have Fo:1+u.length<=d/\d<=3:=by rw[I];unfold mn;split<;>omega
    rw[<-I];conv=>whnf
    refine eF [0,5,6,7,8,9,12,13] [9,25] (λy:Nat × Bool=>y.1<=a.length) (λy=>a.length-y.1)
     (λy=>([.v (.pointer (some ⟨j,0,none⟩)),.v (.int .i64 n),.r 25 3,.v (.slice (some ⟨f,0,none⟩) a.length P),.v (.int .i64 F),.l 9 0,.v (.bool y.2),.v (.int .i64 y.1)],[some (dV (1+D) 1 (.slice s2 u.length d2) B d),some (dV 0 0 (.slice s1 t.length d1) x 0++dV 0 0 (.slice s2 u.length d2) B 0++dV 0 0 N Q 0)],cO E j vb (o+1+1+1+1)))
     (0,false) (by simp only;omega) rfl ?_
    rintro⟨i,again⟩ hi;simp only at hi ⊢;conv=>whnf
    apply aC<;>intro g8;all_goals conv=>whnf
    ·have mC:i < a.length:=by omega
     obtain⟨rec,Y,OS,⟨am,Fp,_⟩,_⟩:=(q.aK iN g).at mC;have H:=eT (eE (vb:=vb) (p:=(o+1+1+1+1)) C.free) _ _ _ Y;subst Fp;have rc:=aJ H (i:=0) rfl;have rs:=aJ H (i:=1) rfl;have NP:rd (cO E j vb (o+1+1+1+1)) f (0+i*8)=_:=rc;cases again
     all_goals
      repeat' ((first|exact trivial|apply T_|apply aC<;>intro _|refine ay ?_|refine ptr ?_|refine ld NP ?_|refine ld rs ?_)<;>conv=>whnf)
     all_goals
      refine av ?_;conv=>whnf
      first
      | exact cL (i+1,true) (by simp only;omega) (by simp only;omega) rfl
      | exact cL (i+1,false) (by simp only;omega) (by simp only;omega) rfl
      | (refine cL (i+1,_) (by simp only;omega) (by simp only;omega) rfl)
    have hT:vI n ⟨(1+D),1,u,B,d,[],[],[]⟩:=⟨⟨(.inr ⟨by simp only;omega,by simp only;omega,by simp only;omega,by simp only;omega⟩),n2,f2,t2,Fo.2,by (simp[br];split<;>simp<;>omega)⟩,by simp only;omega⟩
    cases again
    ·conv=>whnf
     refine(q.aK iN g).mb iN (s:=⟨(1+D),1,u,B,d,[],[],[]⟩) r C rfl ⟨_,rfl,Vr.le (y_ G (bQ f g)),rfl,rfl,rfl⟩ rfl rfl O rfl (Nat.le_of_ble_eq_true rfl) (λV X g9 T l9 J=>?_);conv=>whnf
     refine av ?_;conv=>whnf
     have w:(a++[(⟨(1+D),1,u,B,d,[],[],[]⟩:bT)]).length=a.length+1:=by simp
     refine cL (g9,(o+1+1+1+1),F-1,(V,X),a++[⟨(1+D),1,u,B,d,[],[],[]⟩]) ⟨by simp only;omega,by simp only[w];omega,y_ G (y_ (bQ f g) l9),J,by simp only;omega,by simp only;omega,T,by simp only[w];omega,λm e=>?_⟩ (by simp only;omega) (by simp only[w];rfl);rcases u_.1 e with e|e
     ·exact t6 m e
     rw[V_.1 e];exact hT
    conv=>whnf
    refine av ?_;conv=>whnf
    exact cL (E,(o+1+1+1+1),F-1,(f,P),a) ⟨by simp only;omega,by simp only;omega,y_ G (bQ f g),C,by simp only;omega,by simp only;omega,q.aK iN g,n6,t6⟩ (by simp only;omega) rfl
  conv=>whnf
  repeat' ((first|exact trivial|apply T_|refine av ?_|refine bN r8 O (λy y0 y1 y2 C=>?_))<;>conv=>whnf)
  all_goals
   obtain⟨d,I⟩:∃ z:Int,z=mn (0+M.length+y) 3:=⟨_,rfl⟩
   have Fo:0+M.length<=d/\d<=3:=by rw[I];unfold mn;split<;>omega
   rw[<-I];conv=>whnf
   refine eF [0,5,6,7,8,9,12,13] [9,25] (λy:Nat × Bool=>y.1<=a.length) (λy=>a.length-y.1)
    (λy=>([.v (.pointer (some ⟨j,0,none⟩)),.v (.int .i64 n),.r 25 3,.v (.slice (some ⟨f,0,none⟩) a.length P),.v (.int .i64 F),.l 9 0,.v (.bool y.2),.v (.int .i64 y.1)],[some (dV (-1) 0 (.slice sN M.length dN) Fm d),some (dV 0 0 (.slice s1 t.length d1) x 0++dV 0 0 (.slice s2 u.length d2) B 0++dV 0 0 N Q 0)],cO E j vb (o+1+1)))
    (0,false) (by simp only;omega) rfl ?_
   rintro⟨i,again⟩ hi;simp only at hi ⊢;conv=>whnf
   apply aC<;>intro g8;all_goals conv=>whnf
   ·have mC:i < a.length:=by omega
    obtain⟨rec,Y,OS,⟨am,Fp,_⟩,_⟩:=(q.aK iN g).at mC;have H:=eT (eE (vb:=vb) (p:=(o+1+1)) C.free) _ _ _ Y;subst Fp;have rc:=aJ H (i:=0) rfl;have rs:=aJ H (i:=1) rfl;have NP:rd (cO E j vb (o+1+1)) f (0+i*8)=_:=rc;cases again
    all_goals
     repeat' ((first|exact trivial|apply T_|apply aC<;>intro _|refine ay ?_|refine ptr ?_|refine ld NP ?_|refine ld rs ?_)<;>conv=>whnf)
    all_goals
     refine av ?_;conv=>whnf
     first
     | exact cL (i+1,true) (by simp only;omega) (by simp only;omega) rfl
     | exact cL (i+1,false) (by simp only;omega) (by simp only;omega) rfl
     | (refine cL (i+1,_) (by simp only;omega) (by simp only;omega) rfl)
   have hT:vI n ⟨(-1),0,M,Fm,d,[],[],[]⟩:=⟨⟨(.inl ⟨rfl,rfl⟩),nN,fN,tN,Fo.2,by (simp[br];omega)⟩,by simp only;omega⟩
   cases again
   ·conv=>whnf
    refine(q.aK iN g).mb iN (s:=⟨(-1),0,M,Fm,d,[],[],[]⟩) r C rfl ⟨_,rfl,Vs,rfl,rfl,rfl⟩ rfl rfl O rfl (Nat.le_of_ble_eq_true rfl) (λV X g9 T l9 J=>?_);conv=>whnf
    refine av ?_;conv=>whnf
    have w:(a++[(⟨(-1),0,M,Fm,d,[],[],[]⟩:bT)]).length=a.length+1:=by simp
    refine cL (g9,(o+1+1),F-1,(V,X),a++[⟨(-1),0,M,Fm,d,[],[],[]⟩]) ⟨by simp only;omega,by simp only[w];omega,y_ G (y_ (bQ f g) l9),J,by simp only;omega,by simp only;omega,T,by simp only[w];omega,λm e=>?_⟩ (by simp only;omega) (by simp only[w];rfl);rcases u_.1 e with e|e
    ·exact t6 m e
    rw[V_.1 e];exact hT
   conv=>whnf
   refine av ?_;conv=>whnf
   exact cL (E,(o+1+1),F-1,(f,P),a) ⟨by simp only;omega,by simp only;omega,y_ G (bQ f g),C,by simp only;omega,by simp only;omega,q.aK iN g,n6,t6⟩ (by simp only;omega) rfl
 exact⟨_,_,rfl,q.le,S.free,O,O,_,_,_,rfl,q,n6,O,t6⟩
def Tg (v:Value):Prop:=∃ k a b:Int,v=.agg #[.int .i64 k,.int .i64 a,.int .i64 b]/\(0<=k/\k<=24)/\¬(8<=k/\k<=11)/\k≠22/\(-1000<=a/\a<=1000)/\-1000<=b/\b<=1000
theorem Fq {g:Heap} {a:Nat} {vb:Value} {p:Int} {K:Value->Heap->Prop} {E:List PanicEntry->Heap->Prop} (r:bC g a vb p) (o:p<=100000000)
  (m:∀ x q,-128<=x->x<=127->bC g a vb q->p<=q->q<=p+2->K (.int .i64 x) (cO g a vb q)):Go.Vc.Call prog 145 [.pointer (some ⟨a,0,none⟩)] (cO g a vb p) K E :=
 ia r (CV r o) λv t q u s d e j=>by
  obtain⟨rfl,x,rfl,f,i⟩:=j;exact m x q f i s d e
theorem KI {g:Heap} {d:Nat} {vb:Value} {p:Int} {K:Value->Heap->Prop} {E:List PanicEntry->Heap->Prop} {f:Option Addr} {n c:Nat} {cs:List dB} {x:Int} (r:bC g d vb p) (o:eP g (.slice f n c) cs) (ok:bX cs) (i:0<=x/\x < cs.length)
  (q:∀ a j e (k:Nat),g.le a->bC a d vb p->k<=100->K (.slice j k e) (cO a d vb p)):Go.Vc.Call prog 82 [.slice f n c,.int .i64 x] (cO g d vb p) K E :=
 Hz r (jt (x.toNat+1) f n c cs x g o ok i.1 i.2 O) λv a s t m=>by
  obtain⟨B,own,_⟩:=m;obtain⟨j,e,rfl,_⟩:=own.form;have:=eL ok i.2;exact q a j e _ s t (by simp;omega)
theorem Ft {g:Heap} {a:Nat} {vb:Value} {p:Int} (q i:List Value) (u:aI) (m:bT) (r:bC g a vb p) (hp:p<=60000000) (G:dn g q u) (F:dz g i m) (ok:bX u.ak) (hl:m.locals<=3) (hn:u.methods.length<=100) :
  Dr prog 120 [.pointer (some ⟨a,0,none⟩),.agg ⟨q⟩,.agg ⟨i⟩] g a vb p 10 λg' v=>Tg v:=by
 obtain⟨X,W,K,aa,rfl,D,lR,jq,hl2⟩:=G.form;obtain⟨p1,Q,p2,S,p3,T,p4,V,rfl,k1,k2,k3,k4,k5,k6,k7,k8,d1,d2,d3,d4⟩:=F.form;have sH:=ok.2.1;have G8:=ok.1;refine bE ax func120 P1 U rfl ?_;conv=>whnf
 refine bN r O (λc B C Y L=>?_);have hc:=C O;conv=>whnf
 refine bN L O (λx M s N e=>?_);have H:=s O;have hm1:1<=mx m.locals 1/\mx m.locals 1<=3:=by unfold mx;split<;>omega
 have f:∀ k:Nat,k<=100->1<=mx (k:Int) 1/\mx (k:Int) 1<=100:=λk d=>by unfold mx;split<;>omega
 have I:x=0\/x=1\/x=2\/x=3\/x=4\/x=5\/x=6\/x=7\/x=8\/x=9\/x=10\/x=11\/x=12\/x=13\/x=14\/x=15\/x=16\/x=17\/x=18\/x=19\/x=20\/x=21\/x=22\/x=23\/x=24\/x=25:=by omega
 clear M s N H;rcases I with rfl|rfl|rfl|rfl|rfl|rfl|rfl|rfl|rfl|rfl|rfl|rfl|rfl|rfl|rfl|rfl|rfl|rfl|rfl|rfl|rfl|rfl|rfl|rfl|rfl|rfl;all_goals
  conv=>whnf
  repeat' ((first
   | exact⟨_,_,rfl,z_ g,r.free,O,O,_,_,_,rfl,⟨O,O⟩,O,O,⟨O,O⟩,O,O⟩
   | exact⟨_,_,rfl,E,j.free,O,O,_,_,_,rfl,⟨O,O⟩,O,O,⟨O,O⟩,by have:=f _ d;omega,by have:=f _ d;omega⟩
   | refine av ?_
   | refine bN e O (λy t w z o=>?_)
   | refine bN j O (λy t w z o=>?_)
   | refine Fq e O (λy K t w o z y3=>?_)
   | refine KI e D ok ⟨B,O⟩ (λg3 p' P k E j d=>?_))<;>conv=>whnf)
 have J:y=0\/y=1\/y=2:=by omega
 rcases J with rfl|rfl|rfl;all_goals
  refine ay ?_;conv=>whnf
  exact⟨_,_,rfl,z_ g,r.free,O,O,_,_,_,rfl,⟨O,O⟩,O,O,⟨O,O⟩,O,O⟩
theorem HD {p:Prop} {v:Value} (a:v=tf p):(v=.bool true/\p)\/(v=.bool false/\¬p):=by
 by_cases h:p
 ·exact .inl ⟨a.trans (eg h),h⟩
 exact .inr ⟨a.trans (cD h),h⟩
theorem Fu (D ms:List Value) (u:aI) (m:bT) (x:dc) (s:cz) (lp B:Option Addr) (C z:Nat) (h:Heap) (K:dn h D u) (hm:dz h ms m) (H:AE u) (hI:jL h s lp B C z) (T:mY u.ak.length m.locals s) (Lz:0<=m.locals) (hl:m.locals<=3) (tO:bL u.ak.length m.out)
  (hk:0<=x.kind/\x.kind<=24) (ha : -1000<=x.a/\x.a<=1000) (hb : -1000<=x.b/\x.b<=1000) :
  bq prog 243 [.agg ⟨D⟩,.agg ⟨ms⟩,.agg #[.int .i64 x.kind,.int .i64 x.a,.int .i64 x.b],.agg #[.bool s.told,.slice lp s.locals.length C,.slice B s.stack.length z]] h λv h'=>h.le h'/\∃ r,qb h' v r/\∀ y,r=some y->mY u.ak.length m.locals y/\y.told=s.told/\dw u {m with code:=[x]} x:=by
 obtain⟨M,F,p2,c2,N,G,p4,c4,rfl,k1,k2,k3,k4,k5,k6,k7,k8,d1,d2,d3,d4⟩:=hm.form;have Q:=λq d (f:h.le d) (o:dz d q {m with code:=[x]})=>Bq D q u {m with code:=[x]} x d (K.le f) o H.1 ⟨by unfold cy;omega,by unfold cy;omega⟩ Lz;have V:=λq d (f:h.le d) (o:dz d q {m with code:=[x]}) (j:dw u {m with code:=[x]} x)=>rj D q u {m with code:=[x]} 0 s lp B C z d (K.le f) o H (hI.le f) T hl Z j tO;have Y:=λ(j:dw u {m with code:=[x]} x)=>nM (m:={m with code:=[x]}) H T j;obtain⟨cp,cc,ad,ab,rfl,hcs,lR,jq,hl2⟩:=K.form;generalize dw u {m with code:=[x]} x=E at Q V Y;obtain⟨k,g,b⟩:=x;simp only at hk ha hb;refine bE ax func243 Ro U rfl ?_;conv=>whnf
 refine cZ [.int .i64 k,.int .i64 g,.int .i64 b] rfl (λt d vr e1 f g1=>?_);have o:dz d [.int .i64 m.cls,.int .i64 m.eu,.slice M m.args.length F,.int .i64 m.out,.int .i64 m.locals,.slice (some ⟨t,0,none⟩) 1 1,.slice N m.aF.length G,.slice p4 m.catches.length c4] {m with code:=[⟨k,g,b⟩]}:=by
  refine⟨_,_,_,_,rfl,k1,k2,k3,k4,k5.le f,?_,k7.le f (λ_ _ j=>j.le f),k8.le f (λ_ _ j=>j)⟩;refine⟨Z,_,_,rfl,Z,.inr ⟨t,0,rfl,λaa y I=>?_⟩⟩;have h0:aa=0:=by
   have:=(List.getElem?_eq_some_iff.1 I).1;simp at this;exact this
  subst h0;simp at I;subst I;exact⟨_,bA g1 3 0 Z,rfl,by show cy k;unfold cy;omega,by show cy g;unfold cy;omega,by show cy b;unfold cy;omega⟩
 have S:=Q _ d f o;have KJ:=V _ d f o;obtain⟨tv,W⟩:∃ tv,tv=tf E:=⟨_,rfl⟩
 rw[<-W]at S;conv=>whnf
 refine au S ?_;rcases HD W with ⟨rfl,w⟩|⟨rfl,w⟩
 ·have J:=KJ w;have X:=Y w;have fin:∀ e,h.le e->h.le e/\∃ r,qb e (.tuple #[.agg #[.bool s.told,.slice lp s.locals.length C,.slice B s.stack.length z],.bool false]) r/\∀ y,r=some y->mY u.ak.length m.locals y/\y.told=s.told/\E:=λe L=>⟨L,none,⟨_,_,_,_,_,_,_,rfl⟩,λy p=>by cases p⟩
  have P:∀ v e,d.le e->qb e v (stepT u {m with code:=[⟨k,g,b⟩]} ⟨k,g,b⟩ s)->h.le e/\∃ r,qb e v r/\∀ y,r=some y->mY u.ak.length m.locals y/\y.told=s.told/\E:=λv e L hr=>⟨y_ f L,_,hr,λy p=>⟨(X y p).1,(X y p).2,w⟩⟩
  change bq _ _ _ _ (λv h'=>d.le h'/\qb h' v (stepT u {m with code:=[⟨k,g,b⟩]} ⟨k,g,b⟩ s))at J
  conv=>whnf
  apply aC<;>intro g2;all_goals conv=>whnf
  ·apply aC<;>intro g3;all_goals conv=>whnf
   ·exact fin d f
   refine aB J (λv e i=>?_);refine i.2.form.elim λa1 a=>a.elim λM a=>a.elim λn1 a=>a.elim λF a=>a.elim λN a=>a.elim λn3 a=>a.elim λG a=>a.elim λt a=>?_;subst a;conv=>whnf
   exact P _ e i.1 i.2
  refine aB J (λv e i=>?_);refine i.2.form.elim λa1 a=>a.elim λM a=>a.elim λn1 a=>a.elim λF a=>a.elim λN a=>a.elim λn3 a=>a.elim λG a=>a.elim λt a=>?_;subst a;conv=>whnf
  exact P _ e i.1 i.2
 conv=>whnf
 exact⟨f,none,⟨_,_,_,_,_,_,_,rfl⟩,λy p=>by cases p⟩
def cK (x:dc):List Value:=[.int .i64 x.kind,.int .i64 x.a,.int .i64 x.b]
theorem ug {i:Heap} {j:Nat} {vb:Value} {p:Int} (t:List Value) (m:bT) (r:bC i j vb p) (M:p<=60000000) (B:dz i t m) :
  Dr prog 171 [.pointer (some ⟨j,0,none⟩),.agg ⟨t⟩] i j vb p 3 λu v=>∃ b x y,v=.slice (some ⟨b,0,none⟩) 2 2/\i b=none/\u b=some (.cells (cK x++cK y).toArray 106 (0,0)) /\
   ((y=⟨23,0,0⟩/\x=⟨12,1,0⟩)\/(y=⟨22,0,0⟩/\(x=⟨2,0,0⟩\/∃ w,x=⟨1,w,0⟩/\-128<=w/\w<=127))):=by
 obtain⟨Y,I,p2,J,p3,K,p4,L,rfl,N,P,Q,S,T,V,W,X,d1,d2,d3,d4⟩:=B.form;refine bE ax func171 QE U rfl ?_;conv=>whnf
 apply aC<;>intro z;all_goals conv=>whnf
 ·refine Fq r O (λw aa D E C q0 q1=>?_);conv=>whnf
  refine bN C O (λx F G H g=>?_);conv=>whnf
  apply aC<;>intro o;all_goals conv=>whnf
  ·refine iM (cK ⟨12,1,0⟩++cK ⟨23,0,0⟩) g rfl (λb q d s e f a=>?_);conv=>whnf
   exact⟨_,_,rfl,e,f.free,O,O,b,_,_,rfl,d,a,.inl ⟨rfl,rfl⟩⟩
  refine iM (cK ⟨1,w,0⟩++cK ⟨22,0,0⟩) g rfl (λb q d s e f a=>?_);conv=>whnf
  exact⟨_,_,rfl,e,f.free,O,O,b,_,_,rfl,d,a,.inr ⟨rfl,.inr ⟨w,rfl,D,E⟩⟩⟩
 refine bN r O (λx F G H g=>?_);conv=>whnf
 apply aC<;>intro o;all_goals conv=>whnf
 ·refine iM (cK ⟨12,1,0⟩++cK ⟨23,0,0⟩) g rfl (λb q d s e f a=>?_);conv=>whnf
  exact⟨_,_,rfl,e,f.free,O,O,b,_,_,rfl,d,a,.inl ⟨rfl,rfl⟩⟩
 refine iM (cK ⟨2,0,0⟩++cK ⟨22,0,0⟩) g rfl (λb q d s e f a=>?_);conv=>whnf
 exact⟨_,_,rfl,e,f.free,O,O,b,_,_,rfl,d,a,.inr ⟨rfl,.inl rfl⟩⟩
def cG (h:Heap) (L:List Nat):Heap:=λx=>if x∈L then none else h x
theorem jN {h:Heap} {L:List Nat} {x:Nat} (a:x∈L):cG h L x=none:=by unfold cG;rw[if_pos a]
theorem fu {h:Heap} {L:List Nat} {x:Nat} (a:x ∉ L):cG h L x=h x:=by unfold cG;rw[if_neg a]
theorem nh (h:Heap) (L:List Nat):(cG h L).le h:=λx o a=>by
 by_cases e:x∈L
 ·rw[jN e]at a;cases a
 rw[fu e]at a;exact a
theorem dg {h h':Heap} (L:List Nat) (d:h.le h'):(cG h L).le (cG h' L):=λx o a=>by
 by_cases e:x∈L
 ·rw[jN e]at a;cases a
 rw[fu e]at a ⊢;exact d x o a
theorem qm {h0 h:Heap} {L:List Nat} (f:h0.le h) (d:∀ b∈L,h0 b=none):h0.le (cG h L):=λx o a=>by
 by_cases e:x∈L
 ·rw[d x e]at a;cases a
 rw[fu e];exact f x o a
theorem BP {h h':Heap} {L:List Nat} (f:(cG h L).le (cG h' L)) (d:∀ b∈L,h' b=h b):h.le h':=λx o a=>by
 by_cases e:x∈L
 ·rw[d x e];exact a
 have:=f x o (by rw[fu e];exact a);rwa [fu e]at this
theorem y6 {h h':Heap} {L f:List Nat} (g:Ev h h' L f):(cG h L).le (cG h' f):=λx o a=>by
 by_cases e:x∈L
 ·rw[jN e]at a;cases a
 rw[fu e]at a;have j:x ∉ f:=λi=>by
  rcases g.new x i with d|d
  ·exact e d
  rw[a]at d;cases d
 rw[fu j,g.sr x (by rw[a];simp) e];exact a
theorem uh {P:Program} {f:FuncId} {args:List Value} {h:Heap} {L:List Nat} {R:Value->Heap->Prop} (t:∀ b∈L,∃ o,h b=some o) (E:bq P f args (cG h L) R) :
  bq P f args h λv h'=>(∀ b∈L,h' b=h b)/\R v (cG h' L):=by
 intro w q;refine(E w (λs B a=>q s B (nh h L s B a))).mono ?_;rintro e K ⟨g,m,i⟩;have z:∀ b∈L,b < w.heap.size:=λb a=>by obtain⟨o,j⟩:=t b a;exact ec (q b o j)
 have D:∀ b∈L,g b=none:=λb u=>by
  cases a:g b with
  | none=>rfl
  | some x =>
   rcases m.sB b (by rw[a];simp)with d|d
   ·exact absurd (jN u) d
   have:=z b u;omega
 let h':Heap:=λx=>if x∈L then h x else g x
 have y:∀ x,x∈L->h' x=h x:=λx a=>by simp[h',a]
 have p:∀ x,x ∉ L->h' x=g x:=λx a=>by simp[h',a]
 have F:cG h' L=g:=by
  funext x
  by_cases e:x∈L
  ·rw[jN e,D x e]
  rw[fu e,p x e]
 have J:cQ h w h' K:=by
  refine⟨λx C a=>?_,λx a H=>?_,λx a=>?_,m.size,m.fz,m.out⟩
  ·by_cases e:x∈L
   ·have G:=m.aK x (z x e) (jN e);rw[y x e]at a;rw[G];exact q x C a
   rw[p x e]at a;exact m.view x C a
  ·have I:cG h L x=none:=by
    by_cases e:x∈L
    ·exact jN e
    rw[fu e];exact H
   exact m.aK x a I
  by_cases e:x∈L
  ·left;obtain⟨o,j⟩:=t x e;rw[j];simp
  rw[p x e]at a;rcases m.sB x a with d|d
  ·left;rwa [fu e]at d
  exact .inr d
 refine⟨h',J,?_⟩;cases e with
 | returned v=>exact⟨y,by rw[F];exact i⟩
 | panicked c=>exact i.elim
 | outgrown=>exact i.elim
theorem Fv {P:Program} {f:FuncId} {args:List Value} {g:Heap} {L:List Nat} {d:Nat} {vb:Value} {p:Int} {R:Value->Heap->Prop} {K:Value->Heap->Prop} {E:List PanicEntry->Heap->Prop} (r:bC g d vb p) (i:∀ b∈L,∃ o,g b=some o) (j:bq P f args (cG g L) λv a=>(cG g L).le a/\R v a)
  (m:∀ v a,g.le a->bC a d vb p->R v (cG a L)->K v (cO a d vb p)):Go.Vc.Call P f args (cO g d vb p) K E :=
 Hz r (bq.mono (uh i j) λv a e=>⟨BP e.2.1 e.1,e.2.2⟩) m
abbrev y7 (h:Heap) (v:Value) (l:List dc) (B:List Nat):Prop:=bY 3 h v (l.map cK) B
def qn (u:aI) (m:bT) (x:dc):Prop:=(dw u {m with code:=[x]} x/\¬(8<=x.kind/\x.kind<=11)/\x.kind≠22/\x.kind≠23)\/((8<=x.kind/\x.kind<=10)/\(-3<=x.a/\x.a<=-1)/\x.b=0)
structure iE (g0 g:Heap) (u:aI) (m:bT) (code:List dc) (pc:Option Addr) (cc:Nat) (Bc:List Nat) (el:List Int) (pe:Option Addr) (ce:Nat) (Be:List Nat):Prop where
 le:g0.le g
 oc:y7 g (.slice pc code.length cc) code Bc
 oe:dM g (.slice pe el.length ce) el Be
 nd:Nd (Bc++Be)
 fr:∀ b∈Bc++Be,g0 b=none
 ins:∀ x∈code,qn u m x
 emp:∀ t∈el,0<=t/\t<=(code.length:Int)
 Vt:el.length<=1000
theorem iE.in {g0 g:Heap} {u:aI} {m:bT} {i:List dc} {q:Option Addr} {e:Nat} {a:List Nat} {j:List Int} {s:Option Addr} {f:Nat} {d:List Nat} (h:iE g0 g u m i q e a j s f d):∀ b∈a++d,∃ o,g b=some o :=
 λb p=>(u_.1 p).elim (h.oc.in b) (h.oe.in b)
theorem iE.aK {g0 o p:Heap} {u:aI} {m:bT} {i:List dc} {q:Option Addr} {f:Nat} {d:List Nat} {j:List Int} {s:Option Addr} {g:Nat} {e:List Nat} (h:iE g0 o u m i q f d j s g e) (a:o.le p):iE g0 p u m i q f d j s g e :=
 ⟨y_ h.le a,h.oc.aK (cS.of_le a _),h.oe.aK (cS.of_le a _),h.nd,h.fr,h.ins,h.emp,h.Vt⟩
theorem rz {A B:List Nat} (h:Nd (A++B)):∀ b∈A,b ∉ B:=λb a d=>by
 have:=h b;have:=W_.2 a;have:=W_.2 d;simp only[Y_]at *;omega
theorem iE.app {g0 i:Heap} {u:aI} {m:bT} {e:List dc} {G:Option Addr} {B:Nat} {j:List Nat} {D:List Int} {H:Option Addr} {C:Nat} {g:List Nat} {o:Nat} {vb:Value} {q0 q:Int} {n bytes:Nat} {zero:List Value} {ty:TypeId} {K:Value->Heap->Prop} (h:iE g0 i u m e G B j D H C g) (r0:bC g0 o vb q0) (r:bC i o vb q) (x:dc) (V:qn u m x) (w:n=e.length) (hl:e.length<=1000) (Y:zero.length=3) (a:bytes<=1000)
  (Q:∀ v p f B',iE g0 f u m (e++[x]) v p B' D H C g->(cG i (j++g)).le (cG f (B'++g))->bC f o vb q->K (.slice v (e.length+1) p) (cO f o vb q)):App bytes 3 zero ty (cO i o vb q) G n B 1 (cK x) K:=by
 subst w;have P:=h.in;have s:((e.map cK).length + [cK x].length)*bytes<=1001*1000:=Nat.mul_le_mul (by simp;omega) a;refine Go.Proofs.mb r0 r (ys:=[cK x]) h.oc (λb a=>h.fr b (by simp[a])) h.le Z rfl (by simp[cK]) rfl Y O (by simp;omega) ?_;intro v' f B' k1 k2 k3 k4 F z;have t:y7 f v' (e++[x]) B':=by unfold y7;rw[List.map_append];exact k3
 obtain⟨v,p,rfl,_⟩:=bY.form t;have S:((e++[x]).map cK).length=e.length+1:=by simp
 rw[S]at t ⊢;have J:Ev i f j B':=⟨λb a y=>F b y a,z⟩
 have L:Ev i f (j++g) (B'++g):=⟨λb a y=>F b (λs=>y (by simp[s])) a,λb a=>by
  rcases u_.1 a with d|d
  ·exact(z b d).imp (λM=>by simp[M]) id
  exact .inl (by simp[d])⟩
 refine Q v p f B' ⟨k1,by simpa using t,h.oe.aK (J.aK λb a N=>rz h.nd b N a),?_,λb a=>?_,λab W=>?_,λaa T=>?_,h.Vt⟩ (y6 L) k2
 ·have:=Nd.swap (A:=g) (X:=j) (X':=B') (h.nd.perm λI=>by simp only[Y_];omega) t.nd (λb a=>(z b a).imp id λw s=>by
   obtain⟨ad,E⟩:=P b (by simp[s]);rw[w]at E;cases E)
  exact this.perm λI=>by simp only[Y_];omega
 ·rcases u_.1 a with d|d
  ·exact k4 b d
  exact h.fr b (by simp[d])
 ·rcases u_.1 W with d|d
  ·exact h.ins ab d
  rw[V_.1 d];exact V
 have:=h.emp aa T;simp;omega
theorem iE.Th {g0 j:Heap} {u:aI} {m:bT} {v:List dc} {E:Option Addr} {B:Nat} {a:List Nat} {d:List Int} {F:Option Addr} {C:Nat} {s:List Nat} {i:Nat} {vb:Value} {T q:Int} {n:Nat} {ty:TypeId} {K:Value->Heap->Prop} (h:iE g0 j u m v E B a d F C s) (V:bC g0 i vb T) (r:bC j i vb q) (t:Int) (M:0<=t/\t<=(v.length:Int)) (y:n=d.length) (X:d.length<=999)
  (J:∀ p o e B',iE g0 e u m v E B a (d++[t]) p o B'->(cG j (a++s)).le (cG e (a++B'))->bC e i vb q->K (.slice p (d.length+1) o) (cO e i vb q)):App 8 1 [.int .i64 0] ty (cO j i vb q) F n C 1 [.int .i64 t] K:=by
 subst y;have I:=h.in;refine sL (k:=[t]) (g0:=g0) V r h.oe (λb g=>h.fr b (by simp[g])) h.le rfl (by simp;omega) (λp o e B' P Q z S w=>?_);have x:(d++[t]).length=d.length+1:=by simp
 rw[x]at z ⊢;have G:Ev j e (a++s) (a++B'):=w.more a;refine J p o e B' ⟨P,h.oc.aK (w.aK λb g H=>rz h.nd b g H),by rw[x];exact z,?_,λb g=>?_,h.ins,λW N=>?_,by rw[x];omega⟩ (y6 G) Q
 ·exact Nd.swap h.nd z.nd (λb g=>(w.new b g).imp id λy L=>by
   obtain⟨Y,D⟩:=I b (by simp[L]);rw[y]at D;cases D)
 ·rcases u_.1 g with f|f
  ·exact h.fr b (by simp[f])
  exact S b f
 rcases u_.1 N with f|f
 ·exact h.emp W f
 rw[V_.1 f];exact M
theorem KK {a b:Int} {K:Int->Prop} (f:0<=a) (g:a < 3) (i:0<=b) (j:b < 2) (d:∀ c,0<=c->c<=2->K c):Ar .i64 (a*b) K:=by
 have e:b=0\/b=1:=by omega
 rcases e with rfl|rfl
 ·exact tA O O (d _ O O)
 exact tA O O (d _ O O)
theorem CX {C:Heap} {B:Nat} {vb:Value} {p:Int} (us ms:List Value) (u:aI) (m:bT) (uR:Int) (r:bC C B vb p) (hp:p<=50000000) (hu:dn C us u) (hm:dz C ms m) (hV:AE u) (hn:u.methods.length<=100) (hH:eC u.ak.length m) (BQ:0<=uR/\uR<=20) :
  Dr prog 214 [.pointer (some ⟨B,0,none⟩),.agg ⟨us⟩,.agg ⟨ms⟩,.int .i64 uR] C B vb p 2000 λg' v=>∃ e E cc i f t ce w,v=.tuple #[.slice E e.length cc,.slice t f.length ce]/\iE C g' u m e E cc i f t ce w/\(e.length:Int)<=uR:=by
 have ok:=hV.1;have sH:=ok.2.1;have si:=hH.2.2.2.2.1;have Lz:0<=m.locals:=by have:=hH.2.2.2.2.2;omega
 have tO:=hH.2.2.1;have oU:=λhh (hl:C.le hh)=>oT us ms m u.ak.length hh (hm.le hl) hH sH;have NQ:=λg' q (hl:C.le g') (r':bC g' B vb q) hq=>Ft us ms u m r' hq (hu.le hl) (hm.le hl) ok si hn;have NR:=λag s ab b c ae hh (hl:C.le hh) x g hk ha X=>Fu us ms u m ag s ab b c ae hh (hu.le hl) (hm.le hl) hV x g Lz si tO hk ha X;obtain⟨cp,cc,q,ae,rfl,hcs,lR,jq,hl2⟩:=hu.form;obtain⟨p1,c1,p2,c2,p3,c3,p4,c4,rfl,k1,k2,k3,k4,k5,k6,k7,k8,d1,d2,d3,d4⟩:=hm.form;refine bE ax func214 Q9 U rfl ?_;conv=>whnf
 refine iM [] r rfl (λbc g1 O6 NL l1 r1 e1=>?_);conv=>whnf
 refine iM [] r1 rfl (λbe g2 Vu nbe l2 r2 e2=>?_);conv=>whnf
 have O9:=y_ l1 l2;have uD:bc≠be:=by rintro rfl;rw[Vu]at e1;cases e1
 have EK:iE C g2 u m [] (some ⟨bc,0,none⟩) 0 [bc] [] (some ⟨be,0,none⟩) 0 [be]:=by
  refine⟨O9,dL (l2 bc _ e1),dL e2,λab=>?_,λb X=>?_,Z,Z,Z⟩
  ·simp only[Y_,X_,List.count_nil];by_cases h1:bc=ab
   ·have:¬be=ab:=by omega
    simp[h1,this]
   simp[h1];split<;>omega
  simp at X;rcases X with rfl|rfl
  ·exact O6
  exact aW l1 Vu
 refine Fv r2 EK.in (oU _ (qm O9 EK.fr)) (λv g3 l3 r3 a=>?_);refine a.elim λq1 a=>a.elim λx1 a=>a.elim λq2 a=>a.elim λx2 a=>?_;have z:=a.1;subst z;have Dy:=a.2;have uN:=EK.aK l3;conv=>whnf
 refine eF [0,3,5,6,10,11,12,13] [5,6,12] (λy:(Heap × Int × Nat) × (List dc × Option Addr × Nat × List Nat) × (List Int × Option Addr × Nat × List Nat) × (cz × Option Addr × Nat × Option Addr × Nat)=>y.1.2.2<=40/\bC y.1.1 B vb y.1.2.1/\p<=y.1.2.1/\y.1.2.1<=p+2+30*(y.1.2.2:Int)/\iE C y.1.1 u m y.2.1.1 y.2.1.2.1 y.2.1.2.2.1 y.2.1.2.2.2 y.2.2.1.1 y.2.2.1.2.1 y.2.2.1.2.2.1 y.2.2.1.2.2.2/\jL (cG y.1.1 (y.2.1.2.2.2++y.2.2.1.2.2.2)) y.2.2.2.1 y.2.2.2.2.1 y.2.2.2.2.2.2.1 y.2.2.2.2.2.1 y.2.2.2.2.2.2.2/\mY u.ak.length m.locals y.2.2.2.1/\(y.2.1.1.length:Int)+y.2.2.2.1.stack.length<=uR/\y.2.2.1.1.length<=y.1.2.2) (λy=>40-y.1.2.2)
  (λy=>([.v (.pointer (some ⟨B,0,none⟩)),.v (.int .i64 uR),.l 5 0,.l 6 0,.v (.slice y.2.1.2.1 y.2.1.1.length y.2.1.2.2.1),.v (.slice y.2.2.1.2.1 y.2.2.1.1.length y.2.2.1.2.2.1),.l 12 0,.v (.int .i64 y.1.2.2)],
   [some [.slice cp u.ak.length cc,.slice q u.methods.length ae],some [.int .i64 m.cls,.int .i64 m.eu,.slice p1 m.args.length c1,.int .i64 m.out,.int .i64 m.locals,.slice p2 m.code.length c2,.slice p3 m.aF.length c3,.slice p4 m.catches.length c4],some [.bool y.2.2.2.1.told,.slice y.2.2.2.2.1 y.2.2.2.1.locals.length y.2.2.2.2.2.1,.slice y.2.2.2.2.2.2.1 y.2.2.2.1.stack.length y.2.2.2.2.2.2.2]],cO y.1.1 B vb y.1.2.1))
  ((g3,p,0),([],some ⟨bc,0,none⟩,0,[bc]),([],some ⟨be,0,none⟩,0,[be]),(dF m,q1,x1,q2,x2)) ⟨by simp only;omega,r3,by simp only;omega,by simp only;omega,uN,Dy,kT hH sH,by simp[dF];omega,Z⟩ rfl ?_
 rintro⟨⟨g4,q4,M⟩,⟨e,E,Y,i⟩,⟨f,t,D,w⟩,⟨s,V,W,y3,y4⟩⟩ ⟨hi,r4,HB,GS,hB,x,g,hlen,Al⟩;simp only at hi r4 HB GS hB x g hlen Al ⊢;conv=>whnf
 apply aC<;>intro g5;all_goals conv=>whnf
 ·have UT:=g.len;refine av ?_;conv=>whnf
  apply aC<;>intro g6;all_goals conv=>whnf
  ·apply aC<;>intro g7;all_goals conv=>whnf
   ·refine hB.Th r r4 e.length ⟨O,O⟩ rfl O (λPa Pb g8 LI j l8 H=>?_);conv=>whnf
    repeat' ((first|refine dm ?_|refine bZ ?_|refine eN ?_|refine eO ?_)<;>conv=>whnf)
    refine ia (by assumption) (NQ g8 _ j.le (by assumption) O) (λv g9 S o r9 h1 h2 d=>?_);refine d.elim λkk d=>d.elim λaa d=>d.elim λbx d=>?_;have z:=d.1;subst z;have d:=d.2;have L:=j.aK o;have hc:=NR ⟨kk,aa,bx⟩ s V y3 W y4 (cG g9 (i++LI)) (qm L.le L.fr) ((x.le l8).le (dg _ o)) g d.1 d.2.2.2.1 d.2.2.2.2;conv=>whnf
    refine Fv r9 L.in hc (λv J P T a=>?_);have K:=L.aK P;refine a.elim λres a=>?_;cases res with
    | none =>
     have a:=a.1;refine a.elim λF a=>a.elim λG a=>a.elim λw3 a=>a.elim λw4 a=>a.elim λw5 a=>a.elim λw6 a=>a.elim λw7 z=>?_;subst z;conv=>whnf
     refine av ?_;conv=>whnf
     exact cL ((J,S,M+1),(e,E,Y,i),(f++[(e.length:Int)],Pa,Pb,LI),(s,V,W,y3,y4)) ⟨by simp only;omega,T,by simp only;omega,by simp only;omega,K,((x.le l8).le (dg _ o)).le (dg _ P),g,hlen,by (simp;omega)⟩ (by simp only;omega) (by simp only[U_];rfl)
    | some y =>
     have hy:=a.2 y rfl;have a:=a.1;refine a.elim λF a=>a.elim λG a=>a.elim λw3 a=>a.elim λw4 a=>?_;have z:=a.1;subst z;have KL:jL (cG J (i++LI)) y F w3 G w4:=a.2;have Y4:=hy.1.len;have same:∀(af:List Slot × List (Option (List Value)) × Heap),True:=λ_=>trivial;conv=>whnf
     refine av ?_;conv=>whnf
     refine av ?_;conv=>whnf
     apply aC<;>intro gm;all_goals conv=>whnf
     ·apply aX<;>intro gk;all_goals conv=>whnf
      ·refine K.app r T ⟨kk,aa,bx⟩ (.inl ⟨hy.2.2,d.2.1,d.2.2.1,gk⟩) rfl O rfl (Nat.le_of_ble_eq_true rfl) (λQ N KM I AP NS KN=>?_);conv=>whnf
       refine av ?_;conv=>whnf
       exact cL ((KM,S,M+1),(e++[⟨kk,aa,bx⟩],Q,N,I),(f++[(e.length:Int)],Pa,Pb,LI),(y,F,G,w3,w4)) ⟨by simp only;omega,KN,by simp only;omega,by simp only;omega,AP,KL.le NS,hy.1,by simp only[U_,List.length_singleton];omega,by (simp;omega)⟩ (by simp only;omega) (by simp only[U_];rfl)
      refine av ?_;conv=>whnf
      exact cL ((J,S,M+1),(e,E,Y,i),(f++[(e.length:Int)],Pa,Pb,LI),(s,V,W,y3,y4)) ⟨by simp only;omega,T,by simp only;omega,by simp only;omega,K,((x.le l8).le (dg _ o)).le (dg _ P),g,hlen,by (simp;omega)⟩ (by simp only;omega) (by simp only[U_];rfl)
     refine av ?_;conv=>whnf
     exact cL ((J,S,M+1),(e,E,Y,i),(f++[(e.length:Int)],Pa,Pb,LI),(s,V,W,y3,y4)) ⟨by simp only;omega,T,by simp only;omega,by simp only;omega,K,((x.le l8).le (dg _ o)).le (dg _ P),g,hlen,by (simp;omega)⟩ (by simp only;omega) (by simp only[U_];rfl)
   have Vv:=x.le (nh _ _);have IA:s.stack.length-1 < s.stack.length:=by omega
   obtain⟨b1,o1,F,_⟩:=Vv.2.at IA;have cA:∀(ad:Nat) (qq:Int) (hj:ad < s.stack.length),rd (cO g4 B vb qq) b1 (o1+ad*1)=some (.int .i64 s.stack[ad]):=λad qq hj=>by
    obtain⟨b2,o2,G,a2⟩:=Vv.2.at hj;rw[F]at G;simp only[v_,Addr.mk.injEq]at G;obtain⟨rfl,rfl,_⟩:=G;exact cW (eE r4.free) a2
   repeat' ((first|refine dm ?_|refine bZ ?_|refine eN ?_|refine eO ?_|apply aC<;>intro _|refine bN (by assumption) O (λai z0 z1 z2 r5=>?_)|refine av ?_|refine ay ?_|refine aL F ?_|refine ld (cA _ _ O) ?_|refine KH (by assumption) (pM _ _) ?_|refine KK O O O O (λah w0 F=>?_)|refine hB.app r (by assumption) ⟨_,_,0⟩ (.inr ⟨⟨by simp only;omega,by simp only;omega⟩,⟨by simp only;omega,by simp only;omega⟩,rfl⟩) rfl O rfl (Nat.le_of_ble_eq_true rfl) (λQ N g8 I j l8 H=>?_)|refine iM [] H rfl (λbn g9 hbn nbn o r9 e9=>?_))<;>conv=>whnf)
   all_goals first
    | (refine cL ((g9,_,M+1),(_,Q,N,I),(f,t,D,w),(⟨s.told,s.locals,[]⟩,V,W,some ⟨bn,0,none⟩,0)) ⟨by simp only;omega,r9,by simp only;omega,by simp only;omega,j.aK o,⟨(x.1.le l8).le (dg _ o),dX _ _ _⟩,⟨g.loc,g.mZ,λaf ht=>(by cases ht),Z⟩,by simp;omega,by simp only;omega⟩ (by simp only;omega) (by simp only[U_];rfl);done)
    | skip
   all_goals
    refine ia (by assumption) (NQ g4 _ hB.le (by assumption) O) (λv g9 S o r9 h1 h2 d=>?_);refine d.elim λkk d=>d.elim λaa d=>d.elim λbx d=>?_;have z:=d.1;subst z;have d:=d.2;have L:=hB.aK o;have hc:=NR ⟨kk,aa,bx⟩ s V y3 W y4 (cG g9 (i++w)) (qm L.le L.fr) (x.le (dg _ o)) g d.1 d.2.2.2.1 d.2.2.2.2;conv=>whnf
    refine Fv r9 L.in hc (λv J P T a=>?_);have K:=L.aK P;refine a.elim λres a=>?_;cases res with
    | none =>
     have a:=a.1;refine a.elim λF a=>a.elim λG a=>a.elim λw3 a=>a.elim λw4 a=>a.elim λw5 a=>a.elim λw6 a=>a.elim λw7 z=>?_;subst z;conv=>whnf
     refine av ?_;conv=>whnf
     exact cL ((J,S,M+1),(e,E,Y,i),(f,t,D,w),(s,V,W,y3,y4)) ⟨by simp only;omega,T,by simp only;omega,by simp only;omega,K,(x.le (dg _ o)).le (dg _ P),g,hlen,by (simp only;omega)⟩ (by simp only;omega) rfl
    | some y =>
     have hy:=a.2 y rfl;have a:=a.1;refine a.elim λF a=>a.elim λG a=>a.elim λw3 a=>a.elim λw4 a=>?_;have z:=a.1;subst z;have KL:jL (cG J (i++w)) y F w3 G w4:=a.2;have Y4:=hy.1.len;have same:∀(af:List Slot × List (Option (List Value)) × Heap),True:=λ_=>trivial;conv=>whnf
     refine av ?_;conv=>whnf
     refine av ?_;conv=>whnf
     apply aC<;>intro gm;all_goals conv=>whnf
     ·apply aX<;>intro gk;all_goals conv=>whnf
      ·refine K.app r T ⟨kk,aa,bx⟩ (.inl ⟨hy.2.2,d.2.1,d.2.2.1,gk⟩) rfl O rfl (Nat.le_of_ble_eq_true rfl) (λQ N KM I AP NS KN=>?_);conv=>whnf
       refine av ?_;conv=>whnf
       exact cL ((KM,S,M+1),(e++[⟨kk,aa,bx⟩],Q,N,I),(f,t,D,w),(y,F,G,w3,w4)) ⟨by simp only;omega,KN,by simp only;omega,by simp only;omega,AP,KL.le NS,hy.1,by simp only[U_,List.length_singleton];omega,by (simp only;omega)⟩ (by simp only;omega) (by simp only[U_];rfl)
      refine av ?_;conv=>whnf
      exact cL ((J,S,M+1),(e,E,Y,i),(f,t,D,w),(s,V,W,y3,y4)) ⟨by simp only;omega,T,by simp only;omega,by simp only;omega,K,(x.le (dg _ o)).le (dg _ P),g,hlen,by (simp only;omega)⟩ (by simp only;omega) rfl
     refine av ?_;conv=>whnf
     exact cL ((J,S,M+1),(e,E,Y,i),(f,t,D,w),(s,V,W,y3,y4)) ⟨by simp only;omega,T,by simp only;omega,by simp only;omega,K,(x.le (dg _ o)).le (dg _ P),g,hlen,by (simp only;omega)⟩ (by simp only;omega) rfl
  have Y5:=g.len;refine eF [10,11,18] [] (λy:Heap × Int × (List dc × Option Addr × Nat × List Nat)=>0<=y.2.1/\y.2.1<=4/\bC y.1 B vb q4/\iE C y.1 u m y.2.2.1 y.2.2.2.1 y.2.2.2.2.1 y.2.2.2.2.2 f t D w/\(y.2.2.1.length:Int)+y.2.1<=uR) (λy=>y.2.1.toNat)
   (λy=>([.v (.slice y.2.2.2.1 y.2.2.1.length y.2.2.2.2.1),.v (.slice t f.length D),.v (.int .i64 y.2.1)],[],cO y.1 B vb q4))
   (g4,s.stack.length,(e,E,Y,i)) ⟨by simp only;omega,by simp only;omega,r4,hB,by simp only;omega⟩ rfl ?_
  rintro⟨g8,MP,⟨y8,Ti,Tj,Tk⟩⟩ ⟨ha,X,H,j,Tl⟩;simp only at ha X H j Tl ⊢;conv=>whnf
  apply aC<;>intro ge;all_goals conv=>whnf
  ·refine j.app r H ⟨5,0,0⟩ (.inl ⟨(aS (p:=0) (q:=0) rfl).2 ⟨rfl,rfl⟩,Z,Z,Z⟩) rfl O rfl (Nat.le_of_ble_eq_true rfl) (λQ N KM I AP NS KN=>?_);conv=>whnf
   refine av ?_;conv=>whnf
   exact cL (KM,MP-1,(y8++[⟨5,0,0⟩],Q,N,I)) ⟨by simp only;omega,by simp only;omega,KN,AP,by simp only[U_,List.length_singleton];omega⟩ (by simp only;omega) (by simp only[U_];rfl)
  exact⟨_,_,rfl,j.le,H.free,O,O,y8,Ti,Tj,Tk,f,t,D,w,rfl,j,O⟩
 have Y5:=g.len;refine eF [10,11,18] [] (λy:Heap × Int × (List dc × Option Addr × Nat × List Nat)=>0<=y.2.1/\y.2.1<=4/\bC y.1 B vb q4/\iE C y.1 u m y.2.2.1 y.2.2.2.1 y.2.2.2.2.1 y.2.2.2.2.2 f t D w/\(y.2.2.1.length:Int)+y.2.1<=uR) (λy=>y.2.1.toNat)
  (λy=>([.v (.slice y.2.2.2.1 y.2.2.1.length y.2.2.2.2.1),.v (.slice t f.length D),.v (.int .i64 y.2.1)],[],cO y.1 B vb q4))
  (g4,s.stack.length,(e,E,Y,i)) ⟨by simp only;omega,by simp only;omega,r4,hB,by simp only;omega⟩ rfl ?_
 rintro⟨g8,MP,⟨y8,Ti,Tj,Tk⟩⟩ ⟨ha,X,H,j,Tl⟩;simp only at ha X H j Tl ⊢;conv=>whnf
 apply aC<;>intro ge;all_goals conv=>whnf
 ·refine j.app r H ⟨5,0,0⟩ (.inl ⟨(aS (p:=0) (q:=0) rfl).2 ⟨rfl,rfl⟩,Z,Z,Z⟩) rfl O rfl (Nat.le_of_ble_eq_true rfl) (λQ N KM I AP NS KN=>?_);conv=>whnf
  refine av ?_;conv=>whnf
  exact cL (KM,MP-1,(y8++[⟨5,0,0⟩],Q,N,I)) ⟨by simp only;omega,by simp only;omega,KN,AP,by simp only[U_,List.length_singleton];omega⟩ (by simp only;omega) (by simp only[U_];rfl)
 exact⟨_,_,rfl,j.le,H.free,O,O,y8,Ti,Tj,Tk,f,t,D,w,rfl,j,O⟩
def uj (g e:Heap):Prop:=∀ b a x,rd g b a=some (.int .i64 x)->cy x->∃ d,rd e b a=some (.int .i64 d)/\cy d
structure sM (g g':Heap):Prop where
 int:uj g g'
 bool:∀ b off x,rd g b off=some (.bool x)->∃ x',rd g' b off=some (.bool x')
 row:∀ b off v l,rd g b off=some v->bP g v l->∃ v' l',rd g' b off=some v'/\bP g' v' l'
theorem ic {α:Type} {Q:Nat->α->Prop}:∀ n:Nat,(∀ i,i < n->∃ a,Q i a)->∃ l:List α,l.length=n/\∀ i x,l[i]? = some x->Q i x
 | 0,_=>⟨[],rfl,Z⟩
 | n+1,hq=>by
  obtain⟨l,e,j⟩:=ic n (λi d=>hq i O);obtain⟨a,g⟩:=hq n O;refine⟨l++[a],by simp[e],λi x d=>?_⟩;by_cases m:i < n
  ·rw[List.getElem?_append_left O]at d;exact j i x d
  rw[List.getElem?_append_right O]at d;have f:i=n:=by
   have:=(List.getElem?_eq_some_iff.1 d).1;simp at this;omega
  subst f;rw[e,Nat.sub_self]at d;simp at d;subst d;exact g
def Fw {α:Type} (g a:Heap) (sz:Nat) (R:Heap->List Value->α->Prop):Prop:=∀ b d e x,dP g b d sz=some e->R g e x->∃ f i,dP a b d sz=some f/\R a f i
theorem j5 {α:Type} {g a:Heap} {sz:Nat} {R:Heap->List Value->α->Prop} (t:Fw g a sz R) {v:Value} {l:List α} (x:Row sz R g v l):∃ d,Row sz R a v d/\d.length=l.length:=by
 obtain⟨E,z,c,rfl,F,s⟩:=x;rcases s with rfl|⟨b,j,rfl,y⟩
 ·exact⟨[],⟨Z,z,c,rfl,Z,.inl rfl⟩,rfl⟩
 obtain⟨d,f,w⟩:=ic (Q:=λi C=>∃ e,dP a b (j+i*sz) sz=some e/\R a e C) l.length (λi u=>by
  obtain⟨e,m,o⟩:=y i l[i] (by simp[u]);obtain⟨B,D,p,q⟩:=t _ _ _ _ m o;exact⟨D,B,p,q⟩)
 exact⟨d,⟨O,_,c,by rw[f],O,.inr ⟨b,j,rfl,w⟩⟩,f⟩
theorem nO {h:Heap} {b off:Nat} {v:Value} (a:rd h b off=some v):dP h b off 1=some [v]:=by simp[dP,a]
theorem gp {h:Heap} {b off n:Nat} {v:Value} {vs:List Value} (d:rd h b off=some v) (a:dP h b (off+1) n=some vs):dP h b off (n+1)=some (v::vs):=by simp only[dP,d,a]
theorem eX {h:Heap} {b off n:Nat} {v:Value} {vs:List Value} (a:dP h b off (n+1)=some (v::vs)):rd h b off=some v/\dP h b (off+1) n=some vs:=by
 simp only[dP]at a;split at a
 ·rename_i f r d e;simp only[v_,List.cons.injEq]at a;obtain⟨rfl,rfl⟩:=a;exact⟨d,e⟩
 cases a
theorem HE {g d:Heap} (a:uj g d):Fw g d 1 Mm:=by
 rintro b p q x j ⟨rfl,m⟩;obtain⟨i,_⟩:=eX j;obtain⟨o,e,f⟩:=a _ _ _ i m;exact⟨_,o,nO e,rfl,f⟩
theorem gP {g d:Heap} (a:uj g d) {v:Value} {l:List Int} (f:bP g v l):∃ e,bP d v e/\e.length=l.length:=j5 (HE a) f
theorem xo {g e:Heap} (a:uj g e):Fw g e 3 yg:=by
 rintro b B C D d ⟨rfl,q,s,t⟩;obtain⟨m,d⟩:=eX d;obtain⟨o,d⟩:=eX d;obtain⟨p,_⟩:=eX d;obtain⟨x,f,u⟩:=a _ _ _ m q;obtain⟨y,i,v⟩:=a _ _ _ o s;obtain⟨z,j,w⟩:=a _ _ _ p t;exact⟨_,⟨x,y,z⟩,gp f (gp i (nO j)),rfl,u,v,w⟩
theorem xp {g e:Heap} (a:uj g e):Fw g e 4 zZ:=by
 rintro b G H I d ⟨rfl,t,u,v,w⟩;obtain⟨o,d⟩:=eX d;obtain⟨p,d⟩:=eX d;obtain⟨q,d⟩:=eX d;obtain⟨s,_⟩:=eX d;obtain⟨C,f,x⟩:=a _ _ _ o t;obtain⟨D,i,y⟩:=a _ _ _ p u;obtain⟨E,j,z⟩:=a _ _ _ q v;obtain⟨F,m,B⟩:=a _ _ _ s w;exact⟨_,⟨C,D,E,F⟩,gp f (gp i (gp j (nO m))),rfl,x,y,z,B⟩
theorem HF {g e:Heap} (a:sM g e):Fw g e 3 gR:=by
 rintro b B E F d ⟨y,z,rfl,q,s⟩;obtain⟨m,d⟩:=eX d;obtain⟨o,d⟩:=eX d;obtain⟨p,_⟩:=eX d;obtain⟨x,f⟩:=a.bool _ _ _ m;obtain⟨C,v,i,t⟩:=a.row _ _ _ _ o q;obtain⟨D,w,j,u⟩:=a.row _ _ _ _ p s;exact⟨_,⟨x,v,w⟩,gp f (gp i (nO j)),_,_,rfl,t,u⟩
theorem HG {g e:Heap} (a:sM g e) {vs:List Value} {m:bT} (z:dz g vs m):∃ d,dz e vs d/\d.code.length=m.code.length/\d.aF.length=m.aF.length:=by
 obtain⟨f,c,H,k,rfl,q,s,t,u,v,w,x,y⟩:=z;obtain⟨B,i,_⟩:=gP a.int v;obtain⟨C,j,F⟩:=j5 (xo a.int) w;obtain⟨D,o,G⟩:=j5 (HF a) x;obtain⟨E,p,_⟩:=j5 (xp a.int) y;exact⟨⟨m.cls,m.eu,B,m.out,m.locals,C,D,E⟩,⟨f,c,H,k,rfl,q,s,t,u,i,j,o,p⟩,F,G⟩
theorem sM.of_le {g d:Heap} (a:g.le d):sM g d where
 int:=λ_ _ x h i=>⟨x,cW a h,i⟩
 bool:=λ_ _ x h=>⟨x,cW a h⟩
 row:=λ_ _ v l h i=>⟨v,l,cW a h,i.le a⟩
theorem sM.trans {g j m:Heap} (a:sM g j) (c:sM j m):sM g m where
 int:=λb d x h i=>by
  obtain⟨y,e,f⟩:=a.int b d x h i;exact c.int b d y e f
 bool:=λb d x h=>by
  obtain⟨y,e⟩:=a.bool b d x h;exact c.bool b d y e
 row:=λb d v l h i=>by
  obtain⟨p,o,e,f⟩:=a.row b d v l h i;exact c.row b d p o e f
theorem rV {g:Heap} {b off:Nat} {cs:List Value} {t:TypeId} {x y:Int} (p:g b=some (.cells cs.toArray t (0,0))) (q:cs[off]? = some (.int .i64 x)) (w:cy y):sM g (g.set b (.cells (cs.set off (.int .i64 y)).toArray t (0,0))):=by
 have u:off < cs.length:=(List.getElem?_eq_some_iff.1 q).1;have other:∀ a d,¬(a=b/\d=off)->rd (g.set b (.cells (cs.set off (.int .i64 y)).toArray t (0,0))) a d=rd g a d:=by
  intro a d v;by_cases e:a=b
  ·subst e;have:d≠off:=λe=>v ⟨rfl,e⟩;rw[wz];simp only[rd,p,List.getElem?_toArray];rw[List.getElem?_set_ne (λe=>this e.symm)]
  exact tB e
 have same:rd (g.set b (.cells (cs.set off (.int .i64 y)).toArray t (0,0))) b off=some (.int .i64 y):=by
  rw[wz];simp[u]
 have s:rd g b off=some (.int .i64 x):=by simp[rd,p,q]
 have m:uj g (g.set b (.cells (cs.set off (.int .i64 y)).toArray t (0,0))):=λa d z f i=>by
  by_cases e:a=b/\d=off
  ·obtain⟨rfl,rfl⟩:=e;exact⟨y,same,w⟩
  exact⟨z,by rw[other _ _ e];exact f,i⟩
 refine⟨m,λa d z f=>?_,λa d D l j i=>?_⟩
 ·have e:¬(a=b/\d=off):=by
   rintro⟨rfl,rfl⟩;rw[s]at f;cases f
  exact⟨z,by rw[other _ _ e];exact f⟩
 have e:¬(a=b/\d=off):=by
  rintro⟨rfl,rfl⟩;rw[s]at j;obtain⟨_,E,c,o,_⟩:=i;rw[<-Option.some.inj j]at o;cases o
 obtain⟨C,B,_⟩:=gP m i;exact⟨D,C,by rw[other _ _ e];exact j,B⟩
theorem y9 {g:Heap} {b:Nat} {pre post:List Value} {t:TypeId} {G s:Bool} {p q:Option Addr} {n c k d:Nat} {m o:Value} {K L:List Int} (F:g b=some (.cells (pre++[Value.bool G,.slice p n c,.slice q k d]++post).toArray t (0,0)))
  (H:bP g m K) (B:bP g o L):sM g (g.set b (.cells (pre++[Value.bool s,m,o]++post).toArray t (0,0))):=by
 have w:∀ i v,[Value.bool G,.slice p n c,.slice q k d][i]? = some v->rd g b (pre.length+i)=some v:=λi v u=>cX F rfl u;have J:(g.set b (.cells (pre++[Value.bool s,m,o]++post).toArray t (0,0))) b=some (.cells (pre++[Value.bool s,m,o]++post).toArray t (0,0)):=cY _ _ _;have same:∀ i v,[Value.bool s,m,o][i]? = some v->rd (g.set b (.cells (pre++[Value.bool s,m,o]++post).toArray t (0,0))) b (pre.length+i)=some v:=λi v u=>cX J rfl u;have other:∀ j a,¬(j=b/\pre.length<=a/\a < pre.length+3)->rd (g.set b (.cells (pre++[Value.bool s,m,o]++post).toArray t (0,0))) j a=rd g j a:=by
  intro j a I;by_cases e:j=b
  ·subst e;rw[wz];simp only[rd,F,List.getElem?_toArray];by_cases E:a < pre.length
   ·rw[List.append_assoc,List.append_assoc,List.getElem?_append_left E,List.getElem?_append_left E]
   have M:pre.length+3<=a:=by
    rcases Nat.lt_or_ge a (pre.length+3)with h|h
    ·exact absurd ⟨rfl,O,h⟩ I
    exact h
   rw[List.getElem?_append_right (by simp;omega),List.getElem?_append_right (by simp;omega)];simp
  exact tB e
 have C:∀ a,pre.length<=a/\a < pre.length+3->a=pre.length+0\/a=pre.length+1\/a=pre.length+2:=by intro a h;omega
 have z:uj g (g.set b (.cells (pre++[Value.bool s,m,o]++post).toArray t (0,0))):=λj a D f i=>by
  by_cases e:j=b/\pre.length<=a/\a < pre.length+3
  ·obtain⟨rfl,e⟩:=e;rcases C _ e with rfl|rfl|rfl
   ·rw[w 0 _ rfl]at f;cases f
   ·rw[w 1 _ rfl]at f;cases f
   rw[w 2 _ rfl]at f;cases f
  exact⟨D,by rw[other _ _ e];exact f,i⟩
 refine⟨z,λj a D f=>?_,λj a v l u i=>?_⟩
 ·by_cases e:j=b/\pre.length<=a/\a < pre.length+3
  ·obtain⟨rfl,e⟩:=e;rcases C _ e with rfl|rfl|rfl
   ·exact⟨s,same 0 _ rfl⟩
   ·rw[w 1 _ rfl]at f;cases f
   rw[w 2 _ rfl]at f;cases f
  exact⟨D,by rw[other _ _ e];exact f⟩
 by_cases e:j=b/\pre.length<=a/\a < pre.length+3
 ·obtain⟨rfl,e⟩:=e;rcases C _ e with rfl|rfl|rfl
  ·rw[w 0 _ rfl]at u;obtain⟨_,p,c,B,_⟩:=i;rw[<-Option.some.inj u]at B;cases B
  ·obtain⟨y,x,_⟩:=gP z H;exact⟨m,y,same 1 _ rfl,x⟩
  obtain⟨y,x,_⟩:=gP z B;exact⟨o,y,same 2 _ rfl,x⟩
 obtain⟨y,x,_⟩:=gP z i;exact⟨v,y,by rw[other _ _ e];exact u,x⟩
theorem ni (P:List Value) (u:aI) (m:bT) (h:Heap) (t w p3 x:Option Addr) (q J n3 s f g Q i:Nat) (G:dn h P u) (hm:dz h [.int .i64 m.cls,.int .i64 m.eu,.slice t q f,.int .i64 m.out,.int .i64 m.locals,.slice w J g,.slice p3 n3 Q,.slice x s i] m) (hV:AE u) (j:KC u m) :
  bq prog 172 [.agg ⟨P⟩,.agg #[.int .i64 m.cls,.int .i64 m.eu,.slice t q f,.int .i64 m.out,.int .i64 m.locals,.slice w J g,.slice p3 n3 Q,.slice x s i]] h
   λv h'=>h.le h'/\∃ b c A,v=.agg #[.int .i64 m.cls,.int .i64 m.eu,.slice t q f,.int .i64 m.out,.int .i64 m.locals,.slice w J g,.slice (some ⟨b,0,none⟩) A.length c,.slice x s i]/\fT h h' b c A/\A.length=m.code.length/\m9 u.ak.length m.locals A:=by
 have tH:=G;have su:=j.len;have KO:=λms m' a (hl:h.le a) Y6 Y7=>AI P ms u m' a (G.le hl) Y6 hV Y7;obtain⟨ad,cc,ae,aa,rfl,hcs,lR,jq,hl2⟩:=G.form;obtain⟨a0,c0,s0,k0,X,i1,i2,i3,i4,r1,r2,r3,r4⟩:=hm;simp only[List.cons.injEq,and_true,true_and]at X;obtain⟨rfl,rfl,rfl,rfl⟩:=X;obtain⟨_,_,z,_,_⟩:=r2.len;simp only[Z_]at z;obtain⟨_,z,_⟩:=z;subst z;refine bE ax func172 QF U rfl ?_;conv=>whnf
 refine cZ [] rfl (λe S EK e0 l1 g0=>?_);conv=>whnf
 have o0:bY 3 S (.slice (some ⟨e,0,none⟩) 0 0) [] [e]:=⟨Z,.inr ⟨e,0,[],_,rfl,Z,by simpa using g0,Z,rfl⟩⟩
 refine eF [2,3,4,5] [2,3,4] (λy:Nat × Heap × Option Addr × Nat × List (List Value) × List Nat=>y.1<=m.code.length/\h.le y.2.1/\bY 3 y.2.1 (.slice y.2.2.1 y.1 y.2.2.2.1) y.2.2.2.2.1 y.2.2.2.2.2/\y.2.2.2.2.1.length=y.1/\(∀ r∈y.2.2.2.2.1,vG r)/\∀ b∈y.2.2.2.2.2,h b=none) (λy=>m.code.length-y.1)
  (λy=>([.l 2 0,.l 3 0,.l 4 0,.v (.int .i64 y.1)],
   [some [.slice ad u.ak.length cc,.slice ae u.methods.length aa],some [.int .i64 m.cls,.int .i64 m.eu,.slice t q f,.int .i64 m.out,.int .i64 m.locals,.slice w m.code.length g,.slice y.2.2.1 y.1 y.2.2.2.1,.slice x s i],some [.int .i64 0,.int .i64 0,.slice none 0 0,.int .i64 0,.int .i64 0,.slice none 0 0,.slice none 0 0,.slice none 0 0]],y.2.1))
  (0,S,some ⟨e,0,none⟩,0,[],[e]) ⟨O,l1,o0,rfl,Z,by simpa using EK⟩ rfl ?_
 rintro⟨k,T,pa,ca,N,B⟩ ⟨hk,d,L,K,M,f2⟩;simp only at hk d L K M f2 ⊢;conv=>whnf
 apply aC<;>intro ab;all_goals conv=>whnf
 ·refine cP (ji T) (λv h3 a=>?_);have p:=a.1;refine⟨p,a.2.elim λD a=>a.elim λE H=>?_⟩;subst H;conv=>whnf
  refine dh (h0:=h) (xs:=N) (ys:=[[.bool false,.slice (some ⟨D,0,none⟩) 0 0,.slice (some ⟨E,0,none⟩) 0 0]]) (B:=B) (L.aK (cS.of_le p _)) f2 (y_ d p) rfl rfl Z rfl rfl (by simp;omega) (by simp;omega) ?_;intro v4 h4 B4 w1 w2 w3 w4 w5;have F:=w2.form;refine F.elim λp5 F=>F.elim λc5 hf=>?_;have Y:=hf.1;have V:(N++[[Value.bool false,.slice (some ⟨D,0,none⟩) 0 0,.slice (some ⟨E,0,none⟩) 0 0]]).length=k+1:=by simp[K]
  rw[V]at Y;subst Y;conv=>whnf
  refine av ?_;conv=>whnf
  refine cL (k+1,h4,p5,c5,N++[[.bool false,.slice (some ⟨D,0,none⟩) 0 0,.slice (some ⟨E,0,none⟩) 0 0]],B4) ⟨by simp only;omega,w1,w2,V,λr o=>?_,w3⟩ (by simp only;omega) rfl;rcases u_.1 o with o|o
  ·exact M r o
  rw[V_.1 o];exact⟨_,_,_,_,rfl⟩
 have S2:k=m.code.length:=by omega
 subst S2;obtain⟨b,rfl,a2⟩:=vH L K su.1 M f2 d;have W:(List.replicate m.code.length iR).length=m.code.length:=by simp
 have row:=a2.oA (by rw[W];omega);rw[W]at row;refine aB (KO [.int .i64 m.cls,.int .i64 m.eu,.slice t q f,.int .i64 m.out,.int .i64 m.locals,.slice w m.code.length g,.slice (some ⟨b,0,none⟩) m.code.length ca,.slice x s i] {m with aF:=List.replicate m.code.length iR} T d ⟨_,_,_,_,rfl,i1,i2,i3,i4,r1.le d,r2.le d (λ_ _ I=>I),row,r4.le d (λ_ _ I=>I)⟩ ⟨j.head,j.len,j.code,j.cat⟩) (λv h3 a=>?_);have p:=a.1;refine a.2.elim λb3 a=>a.elim λGk a=>a.elim λA a=>?_;have H:=a.1;subst H;conv=>whnf
 have C:=a.2.1;exact⟨y_ d p,b3,Gk,A,rfl,⟨y_ d C.le,aW d C.fr,C.row⟩,a.2.2.1,a.2.2.2⟩
def since (g0 g:Heap):Heap:=λx=>match g0 x with
 | none=>g x
 | some _=>none
theorem qo {g0 g:Heap} {x:Nat} {o:Obj} (h:g0 x=some o):since g0 g x=none:=by unfold since;rw[h]
theorem ef {g0 g:Heap} {x:Nat} (h:g0 x=none):since g0 g x=g x:=by unfold since;rw[h]
theorem dU {g0 g:Heap} {x:Nat} {o:Obj} (h:since g0 g x=some o):g0 x=none/\g x=some o:=by
 cases e:g0 x with
 | none=>rw[ef e]at h;exact⟨rfl,h⟩
 | some y=>rw[qo e]at h;cases h
theorem aO (g0 g:Heap):(since g0 g).le g:=λx o a=>(dU a).2
theorem bI {g a:Heap} (g0:Heap) (f:g.le a):(since g0 g).le (since g0 a):=λx o i=>by
 obtain⟨d,e⟩:=dU i;rw[ef d];exact f x o e
theorem ie {g0 g:Heap} {B:List Nat} (a:∀ b∈B,g0 b=none):cS g (since g0 g) B:=λb d o e=>by rw[ef (a b d)];exact e
theorem mg {g0 g:Heap} {b:Nat} (a:g b=none):since g0 g b=none:=by
 unfold since;cases h:g0 b<;>simp[h,a]
theorem fU {g0 g:Heap} {b:Nat} {o:Obj} (a:g0 b=none):since g0 (g.set b o)=(since g0 g).set b o:=by
 funext x
 unfold since;simp only[Heap.set];by_cases e:x=b
 ·subst e;simp[a]
 simp[e]
theorem AQ {P:Program} {f:FuncId} {args:List Value} {g0 g:Heap} {R:Value->Heap->Prop} (h0:g0.le g) (D:bq P f args (since g0 g) R) :
  bq P f args g λv t=>(∀ b o,g0 b=some o->t b=some o)/\R v (since g0 t):=by
 intro w q;refine(D w (λs B a=>q s B (aO g0 g s B a))).mono ?_;rintro e J ⟨i,m,j⟩;have z:∀ b o,g0 b=some o->b < w.heap.size:=λb o a=>ec (q b o (h0 b o a));have C:∀ b o,g0 b=some o->i b=none:=λb o u=>by
  cases a:i b with
  | none=>rfl
  | some x =>
   rcases m.sB b (by rw[a];simp)with d|d
   ·exact absurd (qo u) d
   have:=z b o u;omega
 let h':Heap:=λx=>match g0 x with
  | some o=>some o
  | none=>i x
 have y:∀ x o,g0 x=some o->h' x=some o:=λx o a=>by simp[h',a]
 have p:∀ x,g0 x=none->h' x=i x:=λx a=>by simp[h',a]
 have E:since g0 h'=i:=by
  funext x
  cases e:g0 x with
  | some o=>rw[qo e,C x o e]
  | none=>rw[ef e,p x e]
 have I:cQ g w h' J:=by
  refine⟨λx K a=>?_,λx a G=>?_,λx a=>?_,m.size,m.fz,m.out⟩
  ·cases e:g0 x with
   | some o =>
    have F:=m.aK x (z x o e) (qo e);rw[y x o e]at a;rw[F,<-a];exact q x o (h0 x o e)
   | none =>
    rw[p x e]at a;exact m.view x K a
  ·have H:since g0 g x=none:=mg G;exact m.aK x a H
  cases e:g0 x with
  | some o=>left;rw[h0 x o e];simp
  | none =>
   rw[p x e]at a;rcases m.sB x a with d|d
   ·left;rwa [ef e]at d
   exact .inr d
 refine⟨h',I,?_⟩;cases e with
 | returned v=>exact⟨y,by rw[E];exact j⟩
 | panicked c=>exact j.elim
 | outgrown=>exact j.elim
theorem za {g0 g a:Heap} (h:(since g0 g).le (since g0 a)) (h0:∀ b o,g0 b=some o->a b=some o) (f:g0.le g):g.le a:=λx o d=>by
 cases e:g0 x with
 | some y =>
  have:=f x y e;rw[d]at this;rw[h0 x y e,this]
 | none=>exact(dU (h x o (by rw[ef e];exact d))).2
theorem HH {P:Program} {f:FuncId} {args:List Value} {g0 g:Heap} {d:Nat} {vb:Value} {p:Int} {R:Value->Heap->Prop} {K:Value->Heap->Prop} {E:List PanicEntry->Heap->Prop} (r:bC g d vb p) (h0:g0.le g) (j:bq P f args (since g0 g) λv i=>(since g0 g).le i/\R v i)
  (m:∀ v a,g.le a->bC a d vb p->R v (since g0 a)->K v (cO a d vb p)):Go.Vc.Call P f args (cO g d vb p) K E :=
 Hz r (R:=λv a=>R v (since g0 a)) (bq.mono (AQ h0 j) λv a e=>⟨za e.2.1 e.1 h0,e.2.2⟩) m
def KP (g:Heap):Prop:=∀(b:Nat) (a:Array Value) (t:TypeId) (z:Nat × Nat),g b=some (Obj.cells a t z)->z=(0,0)
theorem bY.xq {sz:Nat} {α:Type} {f:α->List Value} {Q:Heap->List Value->α->Prop} {h:Heap} {v:Value} {l:List α} {B:List Nat} (d:bY sz h v (l.map f) B) (w:l.length<=140737488351232) (C:∀ a∈l,Q h (f a) a):Row sz Q h v l:=by
 obtain⟨p,d⟩:=d;rcases d with ⟨rfl,y,_⟩|⟨b,c,rest,G,rfl,s,e,j,_⟩
 ·have:l=[]:=by simpa using y
  subst this;exact⟨Z,none,0,rfl,Z,.inl rfl⟩
 refine⟨w,_,c,Z,by simpa using s,.inr ⟨b,0,rfl,λi x g=>?_⟩⟩;have m:x∈l:=List.mem_of_getElem? g;obtain⟨t,u⟩:=List.getElem?_eq_some_iff.1 g;refine⟨f x,?_,C x m⟩;have o:l.map f=(l.take i).map f++f x::(l.drop (i+1)).map f:=by
  rw[<-u,<-List.map_cons,<-List.map_append,<-List.drop_eq_getElem_cons t,List.take_append_drop]
 have z:((l.take i).map f).flatten.length=i*sz:=by
  rw[cE (sz:=sz)]
  ·rw[List.length_map,List.length_take,Nat.min_eq_left O]
  intro F E;exact p F (by rw[o];exact u_.2 (.inl E))
 have D:(f x).length=sz:=p _ (List.mem_map_of_mem m);rw[o]at e j;have:=bA e sz (0+i*sz) (by
  simp only[List.flatten_append,List.flatten_cons,U_]at j ⊢;omega)
 rw[this];congr 1
 have q:((List.map f (List.take i l)++f x::List.map f (List.drop (i+1) l)).flatten++rest)=(List.map f (List.take i l)).flatten++(f x++((List.map f (List.drop (i+1) l)).flatten++rest)):=by simp
 rw[q,Nat.zero_add,<-z,List.drop_left,<-D,List.take_left]
theorem bY.NT {sz:Nat} {α:Type} {Q:Heap->List Value->α->Prop} {h:Heap} {v:Value} {recs:List (List Value)} {A:List α} {B:List Nat} (s:bY sz h v recs B) (f:recs.length=A.length) (q:A.length<=140737488351232) (u:∀ i (a:i < recs.length) (d:i < A.length),Q h recs[i] A[i]):Row sz Q h v A:=by
 obtain⟨m,⟨rfl,e,_⟩|⟨b,c,rest,D,rfl,C,g,j,_⟩⟩:=s
 ·subst e;have:A=[]:=List.eq_nil_of_length_eq_zero (by simpa using f.symm);subst this;exact⟨Z,none,0,rfl,Z,.inl rfl⟩
 refine⟨q,_,c,by rw[f],O,.inr ⟨b,0,rfl,λi E p=>?_⟩⟩;obtain⟨d,rfl⟩:=List.getElem?_eq_some_iff.1 p;have a:i < recs.length:=by rw[f];exact d
 refine⟨recs[i],?_,u i a d⟩;have t:(recs.take i).flatten.length=i*sz:=by
  rw[cE (sz:=sz)]
  ·rw[List.length_take,Nat.min_eq_left O]
  intro z y;exact m z (List.mem_of_mem_take y)
 have w:recs.flatten++rest=(recs.take i).flatten++(recs[i]++((recs.drop (i+1)).flatten++rest)):=by
  have e:recs=recs.take i++recs[i]::recs.drop (i+1):=by rw[<-List.drop_eq_getElem_cons a,List.take_append_drop]
  have o:=congrArg List.flatten e;rw[o];simp only[List.flatten_append,List.flatten_cons,List.append_assoc]
 have x:recs[i].length=sz:=m _ (x_ _);rw[w]at g j;rw[bA g sz (0+i*sz) (by simp only[U_]at j ⊢;omega),Nat.zero_add,<-t,List.drop_left,<-x,List.take_left]
theorem ig {h:Heap} {b:Nat} {o:Obj} {A:List Nat} (a:b ∉ A):cS h (h.set b o) A:=λc d f e=>by
 have:c≠b:=by rintro rfl;exact a d
 simp only[Heap.set,this,if_false];exact e
def kZ (t:Int):Prop:=-1000<=t/\t<=1000
structure xL (gB g:Heap) (l1:List Int) (p1:Option Addr) (c1:Nat) (B1:List Nat) (l2:List Int) (p2:Option Addr) (c2:Nat) (B2:List Nat):Prop where
 le:gB.le g
 o1:dM g (.slice p1 l1.length c1) l1 B1
 o2:dM g (.slice p2 l2.length c2) l2 B2
 nd:Nd (B1++B2)
 fr:∀ b∈B1++B2,gB b=none
 t1:∀ t∈l1,kZ t
 t2:∀ t∈l2,kZ t
section
variable {gB g g':Heap} {l1 l2:List Int} {p1 p2:Option Addr} {c1 c2:Nat} {B1 B2:List Nat} {bb:Nat} {vb:Value} {q0 q:Int}
theorem xL.start (g:Heap):xL g g [] none 0 [] [] none 0 [] :=
 ⟨z_ g,⟨Z,.inl ⟨rfl,rfl,rfl⟩⟩,⟨Z,.inl ⟨rfl,rfl,rfl⟩⟩,λa=>Z,Z,Z,Z⟩
theorem xL.swap (s:xL gB g l1 p1 c1 B1 l2 p2 c2 B2):xL gB g l2 p2 c2 B2 l1 p1 c1 B1 :=
 ⟨s.le,s.o2,s.o1,s.nd.perm λd=>by simp only[Y_];omega,λb a=>s.fr b (by simp at a ⊢;grind),s.t2,s.t1⟩
theorem xL.in (s:xL gB g l1 p1 c1 B1 l2 p2 c2 B2):∀ b∈B1++B2,∃ o,g b=some o:=λb a=>(u_.1 a).elim (s.o1.in b) (s.o2.in b)
theorem xL.yT {w:TypeId} {n m:Nat} {vs:List Value} {K:Value->Heap->Prop} (s:xL gB g l1 p1 c1 B1 l2 p2 c2 B2) (I:bC gB bb vb q0) (r:bC g bb vb q) (k:List Int) (j:n=l1.length) (i:m=k.length) (E:vs=k.map (Value.int .i64)) (C:l1.length+k.length<=1000000) (B:∀ t∈k,kZ t)
  (z:∀ f e g' B',xL gB g' (l1++k) f e B' l2 p2 c2 B2->bC g' bb vb q->K (.slice f (l1++k).length e) (cO g' bb vb q)):App 8 1 [.int .i64 0] w (cO g bb vb q) p1 n c1 m vs K:=by
 subst j E;have y:=s.in;refine sL (k:=k) I r s.o1 (λb d=>s.fr b (by simp[d])) s.le i C (λf e g' B' F G u H o=>?_);refine z f e g' B' ⟨F,u,s.o2.aK (o.aK λb d x=>rz s.nd b x d),?_,λb d=>?_,λt D=>?_,s.t2⟩ G
 ·have:=Nd.swap (A:=B2) (X:=B1) (X':=B') (s.nd.perm λv=>by simp only[Y_];omega) u.nd (λb d=>(o.new b d).imp id λj i=>by
   obtain⟨J,p⟩:=y b (by simp[i]);rw[j]at p;cases p)
  exact this.perm λv=>by simp only[Y_];omega
 ·rcases u_.1 d with a|a
  ·exact H b a
  exact s.fr b (by simp[a])
 rcases u_.1 D with a|a
 ·exact s.t1 t a
 exact B t a
theorem xL.Az {e:TypeId} {n m:Nat} {vs:List Value} {K:Value->Heap->Prop} (s:xL gB g l1 p1 c1 B1 l2 p2 c2 B2) (x:bC gB bb vb q0) (r:bC g bb vb q) (k:List Int) (u:n=l2.length) (p:m=k.length) (w:vs=k.map (Value.int .i64)) (v:l2.length+k.length<=1000000) (o:∀ t∈k,kZ t)
  (j:∀ d a g' B',xL gB g' l1 p1 c1 B1 (l2++k) d a B'->bC g' bb vb q->K (.slice d (l2++k).length a) (cO g' bb vb q)):App 8 1 [.int .i64 0] e (cO g bb vb q) p2 n c2 m vs K :=
 s.swap.yT x r k u p w v o λd a g' B' f i=>j d a g' B' f.swap i
theorem uk {g0:Heap} {v:Value} {l:List Int} {B:List Nat} (h0:g0.le gB) (e:dM g v l B) (d:∀ b∈B,gB b=none) (f:∀ t∈l,kZ t) (i:l.length<=1000000):bP (since g0 g) v l :=
 bY.xq (e.aK (ie λb a=>aW h0 (d b a))) O λt h=>⟨rfl,by have:=f t h;unfold kZ at this;unfold cy;omega⟩
def NU (g0 g:Heap) (v:Value):Prop:=∃(e:Bool) (p1:Option Addr) (a c1:Nat) (p2:Option Addr) (d c2:Nat) (l1 l2:List Int),v=.agg #[.bool e,.slice p1 a c1,.slice p2 d c2]/\bP (since g0 g) (.slice p1 a c1) l1/\bP (since g0 g) (.slice p2 d c2) l2
theorem xL.KD {g0:Heap} (s:xL gB g l1 p1 c1 B1 l2 p2 c2 B2) (h0:g0.le gB) (d:Bool) (e:l1.length<=1000000) (f:l2.length<=1000000):NU g0 g (.agg #[.bool d,.slice p1 l1.length c1,.slice p2 l2.length c2]) :=
 ⟨d,_,_,_,_,_,_,l1,l2,rfl,uk h0 s.o1 (λb a=>s.fr b (by simp[a])) s.t1 e,uk h0 s.o2 (λb a=>s.fr b (by simp[a])) s.t2 f⟩
end
theorem AR {g0 m:Heap} {e:Nat} {vb:Value} {p:Int} (n z:Int) (r:bC m e vb p) (hp:p<=80000000) (h0:g0.le m) (hn:1<=n/\n<=100) (hl:z<=100) :
  Dr prog 118 [.pointer (some ⟨e,0,none⟩),.int .i64 n,.int .i64 z] m e vb p 700 λI v=>NU g0 I v:=by
 have W:=λI aa (r':bC I e vb aa) hq=>ry n r' hq (by omega:1<=n/\n<=1000);refine bE ax func118 SQ U rfl ?_;conv=>whnf
 refine eF [0,1,2,6,7,8] [6,7] (λy:Nat × (Heap × Int) × (List Int × Option Addr × Nat × List Nat)=>(y.1=0\/(y.1:Int)<=z)/\y.2.2.1.length=y.1/\bC y.2.1.1 e vb y.2.1.2/\p<=y.2.1.2/\y.2.1.2<=p+4*(y.1:Int)/\xL m y.2.1.1 y.2.2.1 y.2.2.2.1 y.2.2.2.2.1 y.2.2.2.2.2 [] none 0 []) (λy=>z.toNat-y.1)
  (λy=>([.v (.pointer (some ⟨e,0,none⟩)),.v (.int .i64 n),.v (.int .i64 z),.l 6 0,.l 7 0,.v (.int .i64 y.1)],[some [.bool false,.slice none 0 0,.slice none 0 0],some [.bool true,.slice y.2.2.2.1 y.1 y.2.2.2.2.1,.slice none 0 0]],cO y.2.1.1 e vb y.2.1.2))
  (0,(m,p),([],none,0,[])) ⟨.inl rfl,rfl,r,by simp only;omega,by simp only;omega,xL.start m⟩ rfl ?_
 rintro⟨ad,⟨g1,q1⟩,⟨u,Y,T,B1⟩⟩ ⟨hi,X,F,HB,GS,H⟩;simp only at hi X F HB GS H ⊢;subst X;conv=>whnf
 apply aC<;>intro gi;all_goals conv=>whnf
 ·refine ia F (W _ _ F O) (λv g2 q2 w G Tm Tn M=>?_);obtain⟨rfl,t,rfl,t0,t1⟩:=M;conv=>whnf
  refine H.yT r G [t] rfl rfl rfl (by simp;omega) (λx d=>by rw[V_.1 d];unfold kZ;omega) (λp2 V J S a s=>?_);conv=>whnf
  refine av ?_;conv=>whnf
  exact cL (u.length+1,(J,q2),(u++[t],p2,V,S)) ⟨.inr (by simp only;omega),Z,s,by simp only;omega,by simp only;omega,a⟩ (by simp only;omega) (by simp only[U_,List.length_singleton];rfl)
 have jq:u.length<=100:=by omega
 refine bN F O (λk E N k2 G=>?_);conv=>whnf
 refine eF [0,1,6,7,9] [6,7] (λy:Int × (Heap × Int) × (List Int × Option Addr × Nat × List Nat)=>0<=y.1/\(y.2.2.1.length:Int)+y.1<=4/\bC y.2.1.1 e vb y.2.1.2/\p<=y.2.1.2/\y.2.1.2<=p+450-6*y.1/\xL m y.2.1.1 u Y T B1 y.2.2.1 y.2.2.2.1 y.2.2.2.2.1 y.2.2.2.2.2) (λy=>y.1.toNat)
  (λy=>([.v (.pointer (some ⟨e,0,none⟩)),.v (.int .i64 n),.l 6 0,.l 7 0,.v (.int .i64 y.1)],[some [.bool false,.slice none 0 0,.slice none 0 0],some [.bool true,.slice Y u.length T,.slice y.2.2.2.1 y.2.2.1.length y.2.2.2.2.1]],cO y.2.1.1 e vb y.2.1.2))
  (k,(g1,q1+1),([],none,0,[])) ⟨E,by simp;omega,G,by simp only;omega,by simp only;omega,H⟩ rfl ?_
 clear G H E N k2;rintro⟨k,⟨J,q3⟩,⟨w,p2,V,S⟩⟩ ⟨E,N,s,Cl,Y8,a⟩;simp only at E N s Cl Y8 a ⊢;conv=>whnf
 apply aC<;>intro gk;all_goals conv=>whnf
 ·refine ia s (W _ _ s O) (λv g4 B l4 g NV NW M=>?_);obtain⟨rfl,t,rfl,t0,t1⟩:=M;conv=>whnf
  have fin:∀(x P:Int),kZ x->bC g4 e vb P->B<=P->P<=B+1->True:=λ_ _ _ _ _ _=>trivial;apply aC<;>intro K;all_goals conv=>whnf
  ·refine bN g O (λab z0 z1 z2 r5=>?_);conv=>whnf
   apply aC<;>intro f;all_goals conv=>whnf
   ·refine a.Az r r5 [1] rfl rfl rfl (by simp;omega) (λx d=>by rw[V_.1 d];unfold kZ;omega) (λo j f i C q=>?_);conv=>whnf
    refine av ?_;conv=>whnf
    exact cL (k-1,(f,B+1),(w++[1],o,j,i)) ⟨by simp only;omega,by simp;omega,q,by simp only;omega,by simp only;omega,C⟩ (by simp only;omega) (by simp only[U_,List.length_singleton];rfl)
   refine a.Az r r5 [t] rfl rfl rfl (by simp;omega) (λx d=>by rw[V_.1 d];unfold kZ;omega) (λo j f i C q=>?_);conv=>whnf
   refine av ?_;conv=>whnf
   exact cL (k-1,(f,B+1),(w++[t],o,j,i)) ⟨by simp only;omega,by simp;omega,q,by simp only;omega,by simp only;omega,C⟩ (by simp only;omega) (by simp only[U_,List.length_singleton];rfl)
  refine a.Az r g [t] rfl rfl rfl (by simp;omega) (λx d=>by rw[V_.1 d];unfold kZ;omega) (λo j f i C q=>?_);conv=>whnf
  refine av ?_;conv=>whnf
  exact cL (k-1,(f,B),(w++[t],o,j,i)) ⟨by simp only;omega,by simp;omega,q,by simp only;omega,by simp only;omega,C⟩ (by simp only;omega) (by simp only[U_,List.length_singleton];rfl)
 have hl2:w.length<=100:=by omega
 refine bN s O (λab z0 z1 z2 g=>?_);conv=>whnf
 apply aC<;>intro K;all_goals conv=>whnf
 ·refine Hz g (ji J) (λv f l6 q hh=>?_);obtain⟨b1,b2,rfl⟩:=hh;conv=>whnf
  exact⟨_,_,rfl,y_ a.le l6,q.free,O,O,false,_,_,_,_,_,_,[],[],rfl,dX _ _ _,dX _ _ _⟩
 apply aC<;>intro f;all_goals conv=>whnf
 ·exact⟨_,_,rfl,a.le,g.free,O,O,a.KD h0 false O O⟩
 apply aC<;>intro g7;all_goals conv=>whnf
 ·refine a.yT r g [1] rfl rfl rfl (by simp;omega) (λx d=>by rw[V_.1 d];unfold kZ;omega) (λo j L i D Q=>?_);conv=>whnf
  exact⟨_,_,rfl,D.le,Q.free,O,O,D.KD h0 true (by simp;omega) O⟩
 apply aC<;>intro L;all_goals conv=>whnf
 ·refine a.Az r g [1,1,1,1] rfl rfl rfl (by simp;omega) (λx d=>by simp at d;subst d;unfold kZ;omega) (λo j L i D Q=>?_);conv=>whnf
  exact⟨_,_,rfl,D.le,Q.free,O,O,D.KD h0 true O (by simp;omega)⟩
 exact⟨_,_,rfl,a.le,g.free,O,O,a.KD h0 true O O⟩
open Go.Vc Go.Proofs.Tryz
set_option maxRecDepth 100000
set_option maxHeartbeats 4000000
def zd (c:dB):Prop:=cy c.bJ/\c.fields.length<=1000/\∀ t∈c.fields,cy t
theorem bX.bd {cs:List dB} (ok:bX cs):∀ c∈cs,zd c:=λc a=>by
 obtain⟨i,d,rfl⟩:=List.mem_iff_getElem.1 a;obtain⟨f1,f2,f3,f4,f5⟩:=ok.2.2 i d;have g:=ok.2.1;refine⟨?_,O,λt f=>?_⟩
 ·unfold cy;have:i=0\/i=1\/1 < i:=by omega
  rcases this with e|e|e
  ·have:=f2 e;omega
  ·have:=f3 e;omega
  have:=f4 e;omega
 have:=f1 t f;unfold bL at this;unfold cy;omega
theorem jk {g0 g:Heap} {v:Value} {cs:List dB} {B:List Nat} (o:ep kY 2 g v cs B) (m:∀ b∈B,g0 b=none) (j:∀ c∈cs,zd c) (s:cs.length<=1000):eP (since g0 g) v cs :=
 (o.aK oB (ie m)).row O λx d C i f=>by
  obtain⟨w,e,q⟩:=f;have a:=j d i;exact⟨w,e,a.1,bY.xq q (by have:=a.2.1;omega) λt p=>⟨rfl,a.2.2 t p⟩⟩
theorem Row.first {α:Type} {sz:Nat} {R:Heap->List Value->α->Prop} {h:Heap} {p:Option Addr} {n c:Nat} {l:List α} (j:Row sz R h (.slice p n c) l) {m:Nat} (v:m<=l.length):Row sz R h (.slice p m c) (l.take m):=by
 obtain⟨t,w,s,d,u,e⟩:=j;simp only[Z_]at d;obtain⟨rfl,rfl,rfl⟩:=d;have g:(l.take m).length=m:=by rw[List.length_take];omega
 refine⟨O,p,c,by rw[g],O,?_⟩;rcases e with rfl|⟨b,q,rfl,o⟩
 ·exact .inl Z
 refine .inr ⟨b,q,rfl,λi x a=>?_⟩;have f:i < m:=by have:=(List.getElem?_eq_some_iff.1 a).1;omega
 rw[List.getElem?_take_of_lt f]at a;exact o i x a
def xu (g0 g:Heap) (v:Value):Prop:=∃(p:Option Addr) (n c:Nat) (a:List dB),v=.slice p n c/\eP (since g0 g) (.slice p n c) a
theorem HI {g:Heap} {a:Nat} {vb:Value} {p:Int} {K:Value->Heap->Prop} {E:List PanicEntry->Heap->Prop} (r:bC g a vb p) (e:p<=1000000000)
  (i:bC g a vb (p+1)->K (.int .i64 0) (cO g a vb (p+1))) (j:bC g a vb (p+1)->K (.int .i64 1) (cO g a vb (p+1))) (m:bC g a vb (p+1)->K (.int .i64 2) (cO g a vb (p+1))) (o:bC g a vb (p+1)->K (.int .i64 3) (cO g a vb (p+1))) :
  Go.Vc.Call prog 43 [.pointer (some ⟨a,0,none⟩),.int .i64 4] (cO g a vb p) K E :=
 bN r e λs q t _ d=>by
  have f:s=0\/s=1\/s=2\/s=3:=by omega
  rcases f with rfl|rfl|rfl|rfl
  ·exact i d
  ·exact j d
  ·exact m d
  exact o d
theorem Fx {g0 Q:Heap} {I:Nat} {vb:Value} {p:Int} (r:bC Q I vb p) (hp:p<=70000000) (h0:g0.le Q) :
  Dr prog 173 [.pointer (some ⟨I,0,none⟩)] Q I vb p 120 λe v=>xu g0 e v:=by
 refine bE ax func173 SU U rfl ?_;conv=>whnf
 refine ia r (qj r O) (λv G q1 l1 r1 Y9 Za hA=>?_);obtain⟨a,T,oc,I1,B,ok⟩:=hA;have E:=oc.form;obtain⟨cp,V,rfl,I2⟩:=E;have hn2:=ok.1;have hn5:=ok.2.1;have plain:xu g0 G (.slice cp a.length V):=⟨_,_,_,a,rfl,jk oc (λb C=>aW h0 (B b C)) ok.bd O⟩
 conv=>whnf
 refine bN r1 O (λy y0 y1 y2 r2=>?_);conv=>whnf
 apply aC<;>intro ga;all_goals conv=>whnf
 ·exact⟨_,_,rfl,l1,r2.free,O,O,plain⟩
 refine bN r2 O (λx x0 x1 x2 r3=>?_);have hx:x.toNat < a.length:=by omega
 conv=>whnf
 refine bN r3 O (λP z0 z1 z2 Y=>?_);conv=>whnf
 apply aC<;>intro gb;all_goals conv=>whnf
 ·refine bN Y O (λag s0 s1 s2 r5=>?_);conv=>whnf
  have uO:a=a.take x.toNat++a[x.toNat]::a.drop (x.toNat+1):=by rw[<-List.drop_eq_getElem_cons hx,List.take_append_drop]
  have HJ:ep kY 2 G (.slice cp a.length V) (a.take x.toNat++a[x.toNat]::a.drop (x.toNat+1)) T:=by rw[<-uO];exact oc
  have E:=HJ.at oB;obtain⟨b,c,xr,pre,post,N,g,m,s,I2,C,sI,Mq,X,S,nV⟩:=E;simp only[Z_]at s;obtain⟨hq,_,xx⟩:=s;subst hq xx;obtain⟨af,rfl,L⟩:=X;have E:=L.form;obtain⟨K,J,rfl,HK⟩:=E;have HL:(a[x.toNat].fields.map bD).length=a[x.toNat].fields.length:=by simp
  rw[HL]at C L HK;have yV:pre.length=x.toNat*2:=by rw[sI,List.length_take,Nat.min_eq_left O]
  have w:∀ y,y∈b::g++m->y∈T:=λy d=>by
   have f:=W_.2 d;refine W_.1 ?_;rw[S y];exact f
  have H:Nd (b::g++m):=I1.perm λaa=>(S aa).symm;have I3:b ∉ g:=λD=>by have:=H b;have:=W_.2 D;simp only[List.cons_append,X_,Y_,beq_self_eq_true,if_true]at *;omega
  have I4:b ∉ m:=λD=>by have:=H b;have:=W_.2 D;simp only[List.cons_append,X_,Y_,beq_self_eq_true,if_true]at *;omega
  have Fy:∀ y∈g,y ∉ m:=λy f F=>by have:=H y;have:=W_.2 f;have:=W_.2 F;simp only[List.cons_append,X_,Y_]at *;omega
  have HM:g0 b=none:=aW h0 (B b (w b Z));have HN:∀ y∈g,g0 y=none:=λy d=>aW h0 (B y (w y (by simp[d])));have NX:∀ y∈m,g0 y=none:=λy d=>aW h0 (B y (w y (by simp[d])));have done:∀(e:Heap) (t:List Value) (z:dB) (q:List Nat),e b=some (.cells (pre++t++post).toArray N (0,0))->t.length=2->kY e t z q->cS G e g->zd z->(∀ y∈q,g0 y=none)->xu g0 e (.slice (some ⟨b,0,none⟩) a.length V):=λe t z q f F h3 h4 h5 W=>by
   obtain⟨B2,o2,c2⟩:=nV e t z q f F h3 h4;refine⟨_,_,_,_,rfl,jk o2 (λy d=>?_) (λP hz=>?_) (by simp;omega)⟩
   ·have j:=W_.2 d;have o:y∈b::g++q:=by
     refine W_.1 ?_;rw[<-c2 y];exact j
    simp only[List.cons_append,List.mem_cons,u_]at o;rcases o with rfl|o|o
    ·exact HM
    ·exact HN y o
    exact W y o
   rcases u_.1 hz with j|j
   ·exact ok.bd P (List.mem_of_mem_take j)
   rcases List.mem_cons.1 j with rfl|j
   ·exact h5
   exact ok.bd P (List.mem_of_mem_drop j)
  have Gq:=ok.bd _ (x_ hx);have Gn:Q b=none:=B b (w b Z);refine av ?_;conv=>whnf
  refine ay ?_;conv=>whnf
  refine ptr ?_;conv=>whnf
  refine j4 r5.free C (by simp;omega) (kg (i:=0) (by simp only;omega) Z) ?_;conv=>whnf
  refine⟨_,_,rfl,Heap.aT l1 Gn,?_,O,O,done _ [.int .i64 (ag-1),.slice K _ J] ⟨ag-1,a[x.toNat].fields⟩ m (cY _ _ _) rfl ⟨_,rfl,L.aK (ig I4)⟩ (ig I3) ⟨by unfold cy;simp only;omega,Gq.2⟩ NX⟩;have uD:I≠b:=λs=>by have:=r5.free;rw[s,C]at this;cases this
  simp[Heap.set,uD,r5.free]
 apply aC<;>intro gc;all_goals conv=>whnf
 ·skip
  have uO:a=a.take x.toNat++a[x.toNat]::a.drop (x.toNat+1):=by rw[<-List.drop_eq_getElem_cons hx,List.take_append_drop]
  have HJ:ep kY 2 G (.slice cp a.length V) (a.take x.toNat++a[x.toNat]::a.drop (x.toNat+1)) T:=by rw[<-uO];exact oc
  have E:=HJ.at oB;obtain⟨b,c,xr,pre,post,N,g,m,s,I2,C,sI,Mq,X,S,nV⟩:=E;simp only[Z_]at s;obtain⟨hq,_,xx⟩:=s;subst hq xx;obtain⟨af,rfl,L⟩:=X;have E:=L.form;obtain⟨K,J,rfl,HK⟩:=E;have HL:(a[x.toNat].fields.map bD).length=a[x.toNat].fields.length:=by simp
  rw[HL]at C L HK;have yV:pre.length=x.toNat*2:=by rw[sI,List.length_take,Nat.min_eq_left O]
  have w:∀ y,y∈b::g++m->y∈T:=λy d=>by
   have f:=W_.2 d;refine W_.1 ?_;rw[S y];exact f
  have H:Nd (b::g++m):=I1.perm λaa=>(S aa).symm;have I3:b ∉ g:=λD=>by have:=H b;have:=W_.2 D;simp only[List.cons_append,X_,Y_,beq_self_eq_true,if_true]at *;omega
  have I4:b ∉ m:=λD=>by have:=H b;have:=W_.2 D;simp only[List.cons_append,X_,Y_,beq_self_eq_true,if_true]at *;omega
  have Fy:∀ y∈g,y ∉ m:=λy f F=>by have:=H y;have:=W_.2 f;have:=W_.2 F;simp only[List.cons_append,X_,Y_]at *;omega
  have HM:g0 b=none:=aW h0 (B b (w b Z));have HN:∀ y∈g,g0 y=none:=λy d=>aW h0 (B y (w y (by simp[d])));have NX:∀ y∈m,g0 y=none:=λy d=>aW h0 (B y (w y (by simp[d])));have done:∀(e:Heap) (t:List Value) (z:dB) (q:List Nat),e b=some (.cells (pre++t++post).toArray N (0,0))->t.length=2->kY e t z q->cS G e g->zd z->(∀ y∈q,g0 y=none)->xu g0 e (.slice (some ⟨b,0,none⟩) a.length V):=λe t z q f F h3 h4 h5 W=>by
   obtain⟨B2,o2,c2⟩:=nV e t z q f F h3 h4;refine⟨_,_,_,_,rfl,jk o2 (λy d=>?_) (λP hz=>?_) (by simp;omega)⟩
   ·have j:=W_.2 d;have o:y∈b::g++q:=by
     refine W_.1 ?_;rw[<-c2 y];exact j
    simp only[List.cons_append,List.mem_cons,u_]at o;rcases o with rfl|o|o
    ·exact HM
    ·exact HN y o
    exact W y o
   rcases u_.1 hz with j|j
   ·exact ok.bd P (List.mem_of_mem_take j)
   rcases List.mem_cons.1 j with rfl|j
   ·exact h5
   exact ok.bd P (List.mem_of_mem_drop j)
  have Gq:=ok.bd _ (x_ hx);have Gn:Q b=none:=B b (w b Z);have e1:rd (cO G I vb (q1+1+1+1)) b (0+x.toNat*2+1)=some (.slice K a[x.toNat].fields.length J):=cW (eE Y.free) (cX C (i:=1) O rfl);have e2:rd (cO G I vb (q1+1+1+1+1)) b (0+x.toNat*2+1)=some (.slice K a[x.toNat].fields.length J):=cW (eE Y.free) (cX C (i:=1) O rfl);have fl:=Gq.2.1;have fl2:a[x.toNat].fields.length<=2:=(ok.2.2 _ hx).2.2.2.2;have zA:∀(u:Heap) (M:List Nat),Ev G u m M->u b=some (.cells (pre++[Value.int .i64 a[x.toNat].bJ,.slice K a[x.toNat].fields.length J]++post).toArray N (0,0))/\b ∉ M:=λu M ev=>by
   refine⟨by rw[ev.sr b (by rw[C];simp) I4];exact C,λD=>?_⟩;rcases ev.new b D with f|f
   ·exact I4 f
   rw[C]at f;cases f
  have fin:∀(c0:Int) (p':Option Addr) (c':Nat) (u:Heap) (M:List Nat),-1000<=c0/\c0<=1000->Q.le u->bC u I vb (q1+1+1+1+1)->dM u (.slice p' (a[x.toNat].fields++[c0]).length c') (a[x.toNat].fields++[c0]) M->(∀ y∈M,Q y=none)->Ev G u m M ->
    ∃ e ad,cO (u.set b (.cells (pre++[Value.int .i64 a[x.toNat].bJ,.slice p' (a[x.toNat].fields++[c0]).length c']++post).toArray N (0,0))) I vb (q1+1+1+1+1)=cO e I vb ad/\Q.le e/\e I=none/\p<=ad/\ad<=p+120/\xu g0 e (.slice (some ⟨b,0,none⟩) a.length V):=λc0 p' c' u M hc0 k1 k2 k3 k4 ev=>by
   have W:=zA u M ev;refine⟨_,_,rfl,Heap.aT k1 Gn,?_,O,O,done _ [.int .i64 a[x.toNat].bJ,.slice p' (a[x.toNat].fields++[c0]).length c'] ⟨a[x.toNat].bJ,a[x.toNat].fields++[c0]⟩ M (cY _ _ _) rfl ⟨_,rfl,k3.aK (ig W.2)⟩ (λc hc ae ho=>ig I3 c hc ae (by rw[ev.sr c (by rw[ho];simp) (Fy c hc)];exact ho)) ⟨Gq.1,by simp;omega,λN ht=>?_⟩ (λy d=>aW h0 (k4 y d))⟩
   ·have uD:I≠b:=λs=>by have:=k2.free;rw[s,W.1]at this;cases this
    simp[Heap.set,uD,k2.free]
   rcases u_.1 ht with f|f
   ·exact Gq.2.2 N f
   rw[V_.1 f];unfold cy;omega
  repeat' ((first|exact trivial|apply T_|refine ld e1 ?_|refine ld e2 ?_|refine ptr ?_|refine ay ?_|refine HI Y O (λr5=>?_) (λr5=>?_) (λr5=>?_) (λr5=>?_)|refine sL (k:=[_]) r (bC.on Y O) L (λy d=>B y (w y (by simp[d]))) l1 rfl (by simp;omega) (λp' c' u M k1 k2 k3 k4 ev=>?_)|refine j4 k2.free (zA _ _ ev).1 (by simp;omega) (kg (i:=1) (by simp only;omega) Z) ?_|exact fin _ _ _ _ _ O k1 k2 k3 k4 ev)<;>conv=>whnf)
 apply aC<;>intro gd;all_goals conv=>whnf
 ·refine ay ?_;conv=>whnf
  obtain⟨_,_,_,Zb,s,hcs⟩:=plain;simp only[Z_]at s;obtain⟨rfl,rfl,rfl⟩:=s;have Zc:1<=Zb.length:=by
   obtain⟨_,_,s,_,_⟩:=hcs.len;simp only[Z_]at s;omega
  exact⟨_,_,rfl,l1,Y.free,O,O,_,_,_,_,rfl,hcs.first Zc⟩
 apply aC<;>intro ge;all_goals conv=>whnf
 ·have To:1 < a.length:=by omega
  have Zd:=oc;have uO:a=a.take 1++a[1]::a.drop (1+1):=by rw[<-List.drop_eq_getElem_cons To,List.take_append_drop]
  have HJ:ep kY 2 G (.slice cp a.length V) (a.take 1++a[1]::a.drop (1+1)) T:=by rw[<-uO];exact oc
  have E:=HJ.at oB;obtain⟨b,c,xr,pre,post,N,g,m,s,I2,C,sI,Mq,X,S,nV⟩:=E;simp only[Z_]at s;obtain⟨hq,_,xx⟩:=s;subst hq xx;obtain⟨af,rfl,L⟩:=X;have E:=L.form;obtain⟨K,J,rfl,HK⟩:=E;have HL:(a[1].fields.map bD).length=a[1].fields.length:=by simp
  rw[HL]at C L HK;have yV:pre.length=1*2:=by rw[sI,List.length_take,Nat.min_eq_left O]
  have w:∀ y,y∈b::g++m->y∈T:=λy d=>by
   have f:=W_.2 d;refine W_.1 ?_;rw[S y];exact f
  have H:Nd (b::g++m):=I1.perm λaa=>(S aa).symm;have I3:b ∉ g:=λD=>by have:=H b;have:=W_.2 D;simp only[List.cons_append,X_,Y_,beq_self_eq_true,if_true]at *;omega
  have I4:b ∉ m:=λD=>by have:=H b;have:=W_.2 D;simp only[List.cons_append,X_,Y_,beq_self_eq_true,if_true]at *;omega
  have Fy:∀ y∈g,y ∉ m:=λy f F=>by have:=H y;have:=W_.2 f;have:=W_.2 F;simp only[List.cons_append,X_,Y_]at *;omega
  have HM:g0 b=none:=aW h0 (B b (w b Z));have HN:∀ y∈g,g0 y=none:=λy d=>aW h0 (B y (w y (by simp[d])));have NX:∀ y∈m,g0 y=none:=λy d=>aW h0 (B y (w y (by simp[d])));have done:∀(e:Heap) (t:List Value) (z:dB) (q:List Nat),e b=some (.cells (pre++t++post).toArray N (0,0))->t.length=2->kY e t z q->cS G e g->zd z->(∀ y∈q,g0 y=none)->xu g0 e (.slice (some ⟨b,0,none⟩) a.length V):=λe t z q f F h3 h4 h5 W=>by
   obtain⟨B2,o2,c2⟩:=nV e t z q f F h3 h4;refine⟨_,_,_,_,rfl,jk o2 (λy d=>?_) (λP hz=>?_) (by simp;omega)⟩
   ·have j:=W_.2 d;have o:y∈b::g++q:=by
     refine W_.1 ?_;rw[<-c2 y];exact j
    simp only[List.cons_append,List.mem_cons,u_]at o;rcases o with rfl|o|o
    ·exact HM
    ·exact HN y o
    exact W y o
   rcases u_.1 hz with j|j
   ·exact ok.bd P (List.mem_of_mem_take j)
   rcases List.mem_cons.1 j with rfl|j
   ·exact h5
   exact ok.bd P (List.mem_of_mem_drop j)
  have Gq:=ok.bd _ (x_ To);have Gn:Q b=none:=B b (w b Z);obtain⟨xs,B0,B1,oC,X,Tq⟩:=Zd;have Vw:=X.len;have e1:dP (cO G I vb (q1+1+1+1)) b (0+1*2) 2=some [.int .i64 a[1].bJ,.slice K a[1].fields.length J]:=by
   refine dD (eE Y.free) ?_;rw[bA C 2 (0+1*2) (by simp;omega),List.append_assoc,show 0+1*2=pre.length by omega,List.drop_left];rfl
  have Tr:∀ y∈B1,y ∉ B0:=λy f F=>by
   have:=I1 y;have:=W_.2 f;have:=W_.2 F;rw[Tq]at *;simp only[Y_]at *;omega
  have fin:∀(v':Value) (u:Heap) (M:List Nat),Q.le u->bC u I vb (q1+1+1+1)->bY 2 u v' (xs++[[.int .i64 a[1].bJ,.slice K a[1].fields.length J],[.int .i64 a[1].bJ,.slice K a[1].fields.length J],[.int .i64 a[1].bJ,.slice K a[1].fields.length J],[.int .i64 a[1].bJ,.slice K a[1].fields.length J]]) M->(∀ y∈M,Q y=none)->(∀ y,y ∉ B0->G y≠none->u y=G y) ->
    ∃ e ad,cO u I vb (q1+1+1+1)=cO e I vb ad/\Q.le e/\e I=none/\p<=ad/\ad<=p+120/\xu g0 e v':=λv' u M k1 k2 k3 k4 k5=>by
   have E:=k3.form;obtain⟨p6,c6,rfl,_⟩:=E;have kp:∀ ab:List Nat,(∀ y∈ab,y∈T/\y ∉ B0)->cS G (since g0 u) ab:=λab hC y d ae ho=>by
    rw[ef (aW h0 (B y (hC y d).1)),k5 y (hC y d).2 (by rw[ho];simp)];exact ho
   have O4:=X.aK oB (kp B1 λy d=>⟨by rw[Tq];simp[d],Tr y d⟩);have Ze:∀ y∈m,y∈T/\y ∉ B0:=λy d=>⟨w y (by simp[d]),λD=>by
    obtain⟨_,⟨he,_,_⟩|⟨b',_,_,_,he,_,_,_,Zf⟩⟩:=oC
    ·cases he
    simp only[Z_,v_,Addr.mk.injEq]at he;rw[Zf,V_,<-he.1.1]at D;exact I4 (by rw[<-D];exact d)⟩
   have Zg:kY (since g0 u) [.int .i64 a[1].bJ,.slice K a[1].fields.length J] a[1] m:=⟨_,rfl,L.aK (kp m Ze)⟩
   have Vx:∀(x:List Value) (c:dB) (ab:List Nat),kY (since g0 u) x c ab->zd c->uK (since g0 u) x c:=λx c ab ho hc=>by
    obtain⟨af,s,ae⟩:=ho;exact⟨af,s,hc.1,bY.xq ae (by have:=hc.2.1;omega) λN ht=>⟨rfl,hc.2.2 N ht⟩⟩
   refine⟨_,_,rfl,k1,k2.free,O,O,_,_,_,a++[a[1],a[1],a[1],a[1]],rfl,(k3.aK (ie λy d=>aW h0 (k4 y d))).NT (by simp[Vw]) (by simp;omega) λi f F=>?_⟩;by_cases hi:i < a.length
   ·rw[List.getElem_append_left O,List.getElem_append_left hi];obtain⟨ab,hC⟩:=O4.mem i hi O;exact Vx _ _ ab hC (ok.bd _ (x_ hi))
   simp only[U_,List.length_cons,List.length_nil]at F;have h3:i=a.length\/i=a.length+1\/i=a.length+2\/i=a.length+3:=by omega
   have key:=Vx _ _ m Zg (ok.bd _ (x_ To));rcases h3 with rfl|rfl|rfl|rfl;all_goals
    rw[List.getElem_append_right O,List.getElem_append_right O];simp only[Vw,Nat.sub_self,Nat.add_sub_cancel_left,List.getElem_cons_zero,List.getElem_cons_succ];exact key
  repeat' ((first|exact trivial|apply T_|refine dZ e1 ?_|refine ptr ?_|refine ay ?_|refine mb r Y (ys:=[[.int .i64 a[1].bJ,.slice K a[1].fields.length J],[.int .i64 a[1].bJ,.slice K a[1].fields.length J],[.int .i64 a[1].bJ,.slice K a[1].fields.length J],[.int .i64 a[1].bJ,.slice K a[1].fields.length J]]) oC (λy d=>B y (by rw[Tq];simp[d])) l1 rfl rfl Z rfl rfl (by simp;omega) (by simp;omega) (λv' u M k1 k2 k3 k4 k5 k6=>?_)|exact fin _ _ _ k1 k2 k3 k4 k5)<;>conv=>whnf)
 apply aC<;>intro gf;all_goals conv=>whnf
 ·skip
  have uO:a=a.take x.toNat++a[x.toNat]::a.drop (x.toNat+1):=by rw[<-List.drop_eq_getElem_cons hx,List.take_append_drop]
  have HJ:ep kY 2 G (.slice cp a.length V) (a.take x.toNat++a[x.toNat]::a.drop (x.toNat+1)) T:=by rw[<-uO];exact oc
  have E:=HJ.at oB;obtain⟨b,c,xr,pre,post,N,g,m,s,I2,C,sI,Mq,X,S,nV⟩:=E;simp only[Z_]at s;obtain⟨hq,_,xx⟩:=s;subst hq xx;obtain⟨af,rfl,L⟩:=X;have E:=L.form;obtain⟨K,J,rfl,HK⟩:=E;have HL:(a[x.toNat].fields.map bD).length=a[x.toNat].fields.length:=by simp
  rw[HL]at C L HK;have yV:pre.length=x.toNat*2:=by rw[sI,List.length_take,Nat.min_eq_left O]
  have w:∀ y,y∈b::g++m->y∈T:=λy d=>by
   have f:=W_.2 d;refine W_.1 ?_;rw[S y];exact f
  have H:Nd (b::g++m):=I1.perm λaa=>(S aa).symm;have I3:b ∉ g:=λD=>by have:=H b;have:=W_.2 D;simp only[List.cons_append,X_,Y_,beq_self_eq_true,if_true]at *;omega
  have I4:b ∉ m:=λD=>by have:=H b;have:=W_.2 D;simp only[List.cons_append,X_,Y_,beq_self_eq_true,if_true]at *;omega
  have Fy:∀ y∈g,y ∉ m:=λy f F=>by have:=H y;have:=W_.2 f;have:=W_.2 F;simp only[List.cons_append,X_,Y_]at *;omega
  have HM:g0 b=none:=aW h0 (B b (w b Z));have HN:∀ y∈g,g0 y=none:=λy d=>aW h0 (B y (w y (by simp[d])));have NX:∀ y∈m,g0 y=none:=λy d=>aW h0 (B y (w y (by simp[d])));have done:∀(e:Heap) (t:List Value) (z:dB) (q:List Nat),e b=some (.cells (pre++t++post).toArray N (0,0))->t.length=2->kY e t z q->cS G e g->zd z->(∀ y∈q,g0 y=none)->xu g0 e (.slice (some ⟨b,0,none⟩) a.length V):=λe t z q f F h3 h4 h5 W=>by
   obtain⟨B2,o2,c2⟩:=nV e t z q f F h3 h4;refine⟨_,_,_,_,rfl,jk o2 (λy d=>?_) (λP hz=>?_) (by simp;omega)⟩
   ·have j:=W_.2 d;have o:y∈b::g++q:=by
     refine W_.1 ?_;rw[<-c2 y];exact j
    simp only[List.cons_append,List.mem_cons,u_]at o;rcases o with rfl|o|o
    ·exact HM
    ·exact HN y o
    exact W y o
   rcases u_.1 hz with j|j
   ·exact ok.bd P (List.mem_of_mem_take j)
   rcases List.mem_cons.1 j with rfl|j
   ·exact h5
   exact ok.bd P (List.mem_of_mem_drop j)
  have Gq:=ok.bd _ (x_ hx);have Gn:Q b=none:=B b (w b Z);refine iM [.int .i64 1,.int .i64 1,.int .i64 1] Y rfl (λbf u O5 YP l6 r6 e6=>?_);conv=>whnf
  have zA:=l6 _ _ C;have Zh:b≠bf:=by rintro rfl;rw[O5]at C;cases C
  refine ay ?_;conv=>whnf
  refine ptr ?_;conv=>whnf
  refine j4 r6.free zA (by simp;omega) (kg (i:=1) (by simp only;omega) Z) ?_;conv=>whnf
  have Zi:dM u (.slice (some ⟨bf,0,none⟩) 3 3) [1,1,1] [bf]:=⟨by simp[bD],.inr ⟨bf,3,[],_,rfl,Z,e6,by simp[bD],rfl⟩⟩
  refine⟨_,_,rfl,Heap.aT (y_ l1 l6) Gn,?_,O,O,done _ [.int .i64 a[x.toNat].bJ,.slice (some ⟨bf,0,none⟩) 3 3] ⟨a[x.toNat].bJ,[1,1,1]⟩ [bf] (cY _ _ _) rfl ⟨_,rfl,Zi.aK (ig (by simpa using Zh))⟩ (λc hc ae ho=>ig I3 c hc ae (l6 _ _ ho)) ⟨Gq.1,Z,λN ht=>by simp at ht;subst ht;unfold cy;omega⟩ (λy d=>by rw[V_.1 d];exact aW (y_ h0 l1) O5)⟩;have uD:I≠b:=λs=>by have:=r6.free;rw[s,zA]at this;cases this
  simp[Heap.set,uD,r6.free]
 skip
 have uO:a=a.take x.toNat++a[x.toNat]::a.drop (x.toNat+1):=by rw[<-List.drop_eq_getElem_cons hx,List.take_append_drop]
 have HJ:ep kY 2 G (.slice cp a.length V) (a.take x.toNat++a[x.toNat]::a.drop (x.toNat+1)) T:=by rw[<-uO];exact oc
 have E:=HJ.at oB;obtain⟨b,c,xr,pre,post,N,g,m,s,I2,C,sI,Mq,X,S,nV⟩:=E;simp only[Z_]at s;obtain⟨hq,_,xx⟩:=s;subst hq xx;obtain⟨af,rfl,L⟩:=X;have E:=L.form;obtain⟨K,J,rfl,HK⟩:=E;have HL:(a[x.toNat].fields.map bD).length=a[x.toNat].fields.length:=by simp
 rw[HL]at C L HK;have yV:pre.length=x.toNat*2:=by rw[sI,List.length_take,Nat.min_eq_left O]
 have w:∀ y,y∈b::g++m->y∈T:=λy d=>by
  have f:=W_.2 d;refine W_.1 ?_;rw[S y];exact f
 have H:Nd (b::g++m):=I1.perm λaa=>(S aa).symm;have I3:b ∉ g:=λD=>by have:=H b;have:=W_.2 D;simp only[List.cons_append,X_,Y_,beq_self_eq_true,if_true]at *;omega
 have I4:b ∉ m:=λD=>by have:=H b;have:=W_.2 D;simp only[List.cons_append,X_,Y_,beq_self_eq_true,if_true]at *;omega
 have Fy:∀ y∈g,y ∉ m:=λy f F=>by have:=H y;have:=W_.2 f;have:=W_.2 F;simp only[List.cons_append,X_,Y_]at *;omega
 have HM:g0 b=none:=aW h0 (B b (w b Z));have HN:∀ y∈g,g0 y=none:=λy d=>aW h0 (B y (w y (by simp[d])));have NX:∀ y∈m,g0 y=none:=λy d=>aW h0 (B y (w y (by simp[d])));have done:∀(e:Heap) (t:List Value) (z:dB) (q:List Nat),e b=some (.cells (pre++t++post).toArray N (0,0))->t.length=2->kY e t z q->cS G e g->zd z->(∀ y∈q,g0 y=none)->xu g0 e (.slice (some ⟨b,0,none⟩) a.length V):=λe t z q f F h3 h4 h5 W=>by
  obtain⟨B2,o2,c2⟩:=nV e t z q f F h3 h4;refine⟨_,_,_,_,rfl,jk o2 (λy d=>?_) (λP hz=>?_) (by simp;omega)⟩
  ·have j:=W_.2 d;have o:y∈b::g++q:=by
    refine W_.1 ?_;rw[<-c2 y];exact j
   simp only[List.cons_append,List.mem_cons,u_]at o;rcases o with rfl|o|o
   ·exact HM
   ·exact HN y o
   exact W y o
  rcases u_.1 hz with j|j
  ·exact ok.bd P (List.mem_of_mem_take j)
  rcases List.mem_cons.1 j with rfl|j
  ·exact h5
  exact ok.bd P (List.mem_of_mem_drop j)
 have Gq:=ok.bd _ (x_ hx);have Gn:Q b=none:=B b (w b Z);refine ay ?_;conv=>whnf
 refine ptr ?_;conv=>whnf
 refine j4 Y.free C (by simp;omega) (kg (i:=1) (by simp only;omega) Z) ?_;conv=>whnf
 refine⟨_,_,rfl,Heap.aT l1 Gn,?_,O,O,done _ [.int .i64 a[x.toNat].bJ,.slice none 0 0] ⟨a[x.toNat].bJ,[]⟩ [] (cY _ _ _) rfl ⟨_,rfl,Z,.inl ⟨rfl,rfl,rfl⟩⟩ (ig I3) ⟨Gq.1,Z,Z⟩ Z⟩;have uD:I≠b:=λs=>by have:=Y.free;rw[s,C]at this;cases this
 simp[Heap.set,uD,Y.free]
theorem vJ {u:aI} {m:bT} {x:dc} (h:dw u m x):∃ p q,pI x.kind=some (p,q)/\(1<=x.kind/\x.kind<=24)/\bh u m x.a p x.a/\bh u m x.a q x.b/\(p=4↔8<=x.kind/\x.kind<=11)/\(q=0\/q=8\/q=9)/\(q=0\/p=5)/\(0<=p/\p<=7):=by
 obtain⟨p,q,a,f,g⟩:=h;refine⟨p,q,a,?_⟩;rcases z9 x.kind with ⟨_,h⟩|⟨s,o,b,i,d,_⟩
 ·rw[h]at a;cases a
 rw[a]at d;simp only[v_,Prod.mk.injEq]at d;obtain⟨rfl,rfl⟩:=d;have j:=nE _ _ i;simp only[gS,ek,List.mem_cons,List.not_mem_nil,or_false,Prod.mk.injEq,Value.agg.injEq,Array.mk.injEq,List.cons.injEq,Value.int.injEq,true_and,and_true]at j;refine(λe:(1<=x.kind/\x.kind<=24)/\(p=4↔8<=x.kind/\x.kind<=11)/\(q=0\/q=8\/q=9)/\(q=0\/p=5)/\(0<=p/\p<=7)=>⟨e.1,f,g,e.2⟩) ?_;omega
theorem ze {u:aI} {m:bT} {a d n:Int} (h:bh u m a d n) (t:d=8->0<=a/\a < u.ak.length) (ok:bX u.ak) (x:u.methods.length<=100) (w:m.locals<=1000) (v:m.code.length<=1000) : -1000<=n/\n<=1000:=by
 unfold bh at h;have:=ok.2.1;by_cases f:d=1
 ·rw[if_pos f]at h;have:=eU.1 h;omega
 rw[if_neg f]at h;by_cases g:d=2
 ·rw[if_pos g]at h;omega
 rw[if_neg g]at h;by_cases i:d=3
 ·rw[if_pos i]at h;omega
 rw[if_neg i]at h;by_cases j:d=4
 ·rw[if_pos j]at h;omega
 rw[if_neg j]at h;by_cases o:d=5
 ·rw[if_pos o]at h;omega
 rw[if_neg o]at h;by_cases p:d=6
 ·rw[if_pos p]at h;omega
 rw[if_neg p]at h;by_cases q:d=7
 ·rw[if_pos q]at h;omega
 rw[if_neg q]at h;by_cases e:d=8
 ·rw[if_pos e]at h;have:=eL ok (t e).2;omega
 rw[if_neg e]at h;by_cases s:d=9
 ·rw[if_pos s]at h;omega
 rw[if_neg s]at h;omega
theorem qp {u:aI} {m:bT} {x:dc} (h:dw u m x) (ok:bX u.ak) (f:u.methods.length<=100) (e:m.locals<=1000) (d:m.code.length<=1000):(1<=x.kind/\x.kind<=24)/\(-1000<=x.a/\x.a<=1000)/\-1000<=x.b/\x.b<=1000:=by
 obtain⟨p,t,_,j,a,i,_,_,q,s⟩:=vJ h;refine⟨j,ze a (λg=>O) ok f e d,ze i (λg=>?_) ok f e d⟩;have o:p=5:=by omega
 subst o;exact a
theorem um {u:aI} {m e:bT} {a d n:Int} (h:bh u m a d n) (g:d≠4) (f:e.locals=m.locals):bh u e a d n:=by
 unfold bh at h ⊢;rw[if_neg g]at h ⊢;rw[f];exact h
theorem CY {u:aI} {m d:bT} {x:dc} (h:dw u m x) (j:¬(8<=x.kind/\x.kind<=11)) (a:d.locals=m.locals):dw u d x:=by
 obtain⟨p,q,o,_,f,g,i,s,_⟩:=vJ h;exact⟨p,q,o,um f (λe=>j (i.1 e)) a,um g (λe=>O) a⟩
theorem CZ {u:aI} {m:bT} {x:dc} (g:8<=x.kind/\x.kind<=11) (a:0<=x.a/\x.a < m.code.length) (d:x.b=0):dw u m x:=by
 have f:x.kind=8\/x.kind=9\/x.kind=10\/x.kind=11:=by omega
 refine⟨4,0,?_,a,?_⟩
 ·rcases f with e|e|e|e<;>(rw[e];rfl)
 unfold bh;simp[d]
def Good (u:aI) (m:bT) (L:Int) (x:dc):Prop:=(dw u {m with code:=[x]} x/\¬(8<=x.kind/\x.kind<=11)/\x.kind≠22)\/((8<=x.kind/\x.kind<=11)/\(0<=x.a/\x.a < L)/\x.b=0)
theorem Good.ins {u:aI} {m d:bT} {L:Int} {x:dc} (h:Good u m L x) (g:d.locals=m.locals) (i:(d.code.length:Int)=L):dw u d x:=by
 rcases h with ⟨a,e,_⟩|⟨a,e,f⟩
 ·exact CY a e g
 exact CZ a O f
theorem Good.k {u:aI} {m:bT} {L:Int} {x:dc} (h:Good u m L x):x.kind≠22:=by
 rcases h with ⟨_,_,h⟩|⟨h,_⟩
 ·exact h
 omega
theorem BR {u:aI} {m:bT} {x:dc} (h:qn u m x) (ok:bX u.ak) (e:u.methods.length<=100) (d:m.locals<=1000):(1<=x.kind/\x.kind<=24)/\(-1000<=x.a/\x.a<=1000)/\-1000<=x.b/\x.b<=1000:=by
 rcases h with ⟨a,_⟩|⟨a,f,g⟩
 ·exact qp a ok e d Z
 omega
def sx (x:je):List Value:=[.int .i64 x.lo,.int .i64 x.hi,.int .i64 x.to,.int .i64 x.cls]
structure iO (gB g:Heap) (code:List dc) (pc:Option Addr) (cc:Nat) (Bc:List Nat) (el:List Int) (pe:Option Addr) (ce:Nat) (Be:List Nat) (ks:List je) (kv:Value) (Bk:List Nat):Prop where
 le:gB.le g
 oc:y7 g (.slice pc code.length cc) code Bc
 oe:dM g (.slice pe el.length ce) el Be
 ok:bY 4 g kv (ks.map sx) Bk
 kf:(kv=.slice none 0 0/\ks=[])\/∃ bk,kv=.slice (some ⟨bk,0,none⟩) 1 1/\ks.length=1
 nd:Nd (Bc++(Be++Bk))
 fr:∀ b∈Bc++(Be++Bk),gB b=none
section
variable {gB g g':Heap} {code:List dc} {pc:Option Addr} {cc:Nat} {Bc:List Nat} {el:List Int} {pe:Option Addr} {ce:Nat} {Be:List Nat} {ks:List je} {kv:Value} {Bk:List Nat}
theorem iO.in (h:iO gB g code pc cc Bc el pe ce Be ks kv Bk):∀ b∈Bc++(Be++Bk),∃ o,g b=some o :=
 λb a=>(u_.1 a).elim (h.oc.in b) λa=>(u_.1 a).elim (h.oe.in b) (h.ok.in b)
theorem iO.aK (h:iO gB g code pc cc Bc el pe ce Be ks kv Bk) (a:g.le g'):iO gB g' code pc cc Bc el pe ce Be ks kv Bk :=
 ⟨y_ h.le a,h.oc.aK (cS.of_le a _),h.oe.aK (cS.of_le a _),h.ok.aK (cS.of_le a _),h.kf,h.nd,h.fr⟩
theorem iO.of {u:aI} {m:bT} (h:iE gB g u m code pc cc Bc el pe ce Be):iO gB g code pc cc Bc el pe ce Be [] (.slice none 0 0) [] :=
 ⟨h.le,h.oc,h.oe,⟨Z,.inl ⟨rfl,rfl,rfl⟩⟩,.inl ⟨rfl,rfl⟩,by simpa using h.nd,by simpa using h.fr⟩
theorem iO.app {d:Nat} {vb:Value} {M q:Int} {n v bytes:Nat} {zero vs:List Value} {ty:TypeId} {K:Value->Heap->Prop} (h:iO gB g code pc cc Bc el pe ce Be ks kv Bk) (N:bC gB d vb M) (r:bC g d vb q) (xs:List dc) (p:n=code.length) (f:v=xs.length) (D:vs=(xs.map cK).flatten) (x:dI vs=true) (Q:code.length<=1000) (S:xs.length<=10) (F:zero.length=3) (a:bytes<=1000)
  (z:∀ j e g' B',iO gB g' (code++xs) j e B' el pe ce Be ks kv Bk->bC g' d vb q->K (.slice j (code++xs).length e) (cO g' d vb q)):App bytes 3 zero ty (cO g d vb q) pc n cc v vs K:=by
 subst p D f;have y:=h.in;have f:((code.map cK).length+(xs.map cK).length)*bytes<=1010*1000:=Nat.mul_le_mul (by simp;omega) a;refine Go.Proofs.mb N r (ys:=xs.map cK) h.oc (λb a=>h.fr b (by simp[a])) h.le rfl Z (λW E=>by obtain⟨V,_,rfl⟩:=List.mem_map.1 E;rfl) x F O (by simp;omega) ?_;intro P g' B' G H I J L u;have i:y7 g' P (code++xs) B':=by unfold y7;rw[List.map_append];exact I
 obtain⟨j,e,rfl,_⟩:=bY.form i;have B:((code++xs).map cK).length=(code++xs).length:=by simp
 rw[B]at i ⊢;have s:Ev g g' Bc B':=⟨λb a C=>L b C a,u⟩
 refine z j e g' B' ⟨G,i,h.oe.aK (s.aK λb a o=>rz h.nd b o (by simp[a])),h.ok.aK (s.aK λb a o=>rz h.nd b o (by simp[a])),h.kf,?_,λb a=>?_⟩ H
 ·have:=Nd.swap (A:=Be++Bk) (X:=Bc) (X':=B') (h.nd.perm λw=>by simp only[Y_];omega) i.nd (λb a=>(u b a).imp id λp f=>by
   obtain⟨T,t⟩:=y b (by simp at f ⊢;grind);rw[p]at t;cases t)
  exact this.perm λw=>by simp only[Y_];omega
 rcases u_.1 a with m|m
 ·exact J b m
 exact h.fr b (by simp at m ⊢;grind)
theorem iO.cat {d:Nat} {vb:Value} {q:Int} {cs:List Value} {t:TypeId} {K:Nat->Heap->Prop} (h:iO gB g code pc cc Bc el pe ce Be [] (.slice none 0 0) []) (r:bC g d vb q) (x:je) (a:cs=sx x)
  (s:∀ b g',iO gB g' code pc cc Bc el pe ce Be [x] (.slice (some ⟨b,0,none⟩) 1 1) [b]->bC g' d vb q->K b (cO g' d vb q)):zB (cO g d vb q) cs t K:=by
 refine iM (sx x) r a (λb g' e v l u m=>?_);have p:=h.in;have h':=h.aK l;refine s b g' ⟨h'.le,h'.oc,h'.oe,⟨by simp[sx],.inr ⟨b,1,[],t,Z,Z,by simpa using m,by simp[sx],rfl⟩⟩,.inr ⟨b,rfl,rfl⟩,?_,λc a=>?_⟩ u
 ·have o:Nd (Bc++Be):=by have:=h.nd;simpa using this
  have:=Nd.two o (B:=[b]) (λj=>by simp only[X_,List.count_nil];split<;>omega) (λc a f=>by
   rw[V_.1 a]at f;obtain⟨w,i⟩:=p b (by simpa using f);rw[e]at i;cases i)
  exact this.perm λj=>by simp only[Y_];omega
 simp only[u_,V_]at a;rcases a with a|a|rfl
 ·exact h.fr c (by simp[a])
 ·exact h.fr c (by simp[a])
 exact aW h.le e
theorem iO.at (h:iO gB g code pc cc Bc el pe ce Be ks kv Bk) {i:Nat} (j:i < code.length):∃ b,pc=some ⟨b,0,none⟩/\dP g b (0+i*3) 3=some (cK code[i]) /\
  ∃ pre post t,g b=some (.cells (pre++cK code[i]++post).toArray t (0,0))/\pre.length=i*3/\∀ y g',g'=g.set b (.cells (pre++cK y++post).toArray t (0,0))->iO gB g' (code.set i y) pc cc Bc el pe ce Be ks kv Bk:=by
 have w:code.map cK=(code.take i).map cK++cK code[i]::(code.drop (i+1)).map cK:=by
  rw[<-List.map_cons,<-List.map_append,<-List.drop_eq_getElem_cons j,List.take_append_drop]
 have d:=h.oc;unfold y7 at d;rw[w]at d;obtain⟨b,c,pre,post,t,e,f,u,_,p,z⟩:=d.at;simp only[Z_]at e;obtain⟨rfl,_,rfl⟩:=e;subst p;have a:pre.length=i*3:=by rw[u,List.length_map,List.length_take,Nat.min_eq_left O]
 refine⟨b,rfl,?_,pre,post,t,f,a,λy g' e=>?_⟩
 ·rw[bA f 3 (0+i*3) (by simp[a,cK])];rw[List.append_assoc,Nat.zero_add,<-a,List.drop_left];rfl
 have o:g' b=some (.cells (pre++cK y++post).toArray t (0,0)):=by rw[e];exact cY _ _ _
 have x:=z g' (cK y) o rfl;have v:(code.set i y).map cK=(code.take i).map cK++cK y::(code.drop (i+1)).map cK:=by
  rw[List.set_eq_take_append_cons_drop,if_pos j];simp
 have m:cS g g' (Be++Bk):=λc q B s=>by
  have:c≠b:=λe=>rz h.nd b Z (by rw[<-e];exact q);rw[e];simp only[Heap.set,this,if_false];exact s
 refine⟨?_,?_,h.oe.aK m.l,h.ok.aK m.r,h.kf,h.nd,h.fr⟩
 ·rw[e];exact Heap.aT h.le (h.fr b Z)
 unfold y7;rw[v,List.length_set];exact x
end
open Go.Vc Go.Proofs.Tryz
set_option maxRecDepth 100000
set_option maxHeartbeats 4000000
structure Ts (Gb:Heap) (rec:List Value) (m:bT) (a:Value):Prop where
 form:∃ bc cc bs cs kv,rec=[.int .i64 m.cls,.int .i64 m.eu,a,.int .i64 m.out,.int .i64 m.locals,.slice (some ⟨bc,0,none⟩) m.code.length cc,.slice (some ⟨bs,0,none⟩) m.aF.length cs,kv]/\(Gb bc=none/\Gb bs=none) /\
  ((kv=.slice none 0 0/\m.catches=[])\/∃ bk,kv=.slice (some ⟨bk,0,none⟩) 1 1/\m.catches.length=1)
def uo (m a:bT):Prop:=a.cls=m.cls/\a.eu=m.eu/\a.args=m.args/\a.out=m.out/\a.locals=m.locals
theorem uo.I5 {n:Nat} {m d:bT} (h:uo m d) (a:eC n m):eC n d:=by
 obtain⟨e,f,g,i,j⟩:=h;unfold eC br at a ⊢;rw[e,f,g,i,j];exact a
def Kd (l:List dc):Prop:=∃ a y,l=a++[y]/\(∀ x∈a,x.kind≠22)/\(y.kind=22\/y.kind=23)/\y.a=0/\y.b=0
structure zf (Gb G:Heap) (u:aI) (m:bT) (a:Value) (rec:List Value) (m':bT):Prop where
 same:uo m m'
 read:dz G rec m'
 ms:LG u m'
 form:Ts Gb rec m' a
 kd:Kd m'.code
theorem uq {n:Nat} {m:bT} (a:eC n m) (i:n<=5):cy m.cls/\cy m.eu/\cy m.out/\cy m.locals:=by
 unfold eC bL at a;have g:0<=m.locals:=by have:=a.2.2.2.2.2;omega
 obtain⟨d,_,e,_,f,_⟩:=a;unfold cy;omega
theorem gv {α:Type} {sz:Nat} {R:Heap->List Value->α->Prop} (h:Heap):Row sz R h (.slice none 0 0) ([]:List α):=⟨Z,none,0,rfl,Z,.inl rfl⟩
theorem vK {g:Heap} {n:Nat} {m:bT} {a:Value} (i:eC n m) (o:n<=5) (j:bP g a m.args) (d:m.code=[]) (e:m.aF=[]) (f:m.catches=[]):dz g (dV m.cls m.eu a m.out m.locals) m:=by
 obtain⟨p,q,s,t⟩:=uq i o;exact⟨a,_,_,_,rfl,p,q,s,t,j,by rw[d];exact gv g,by rw[e];exact gv g,by rw[f];exact gv g⟩
theorem BS {h:Heap} {b n sz:Nat} {vs:List Value} {K:List Value->Prop} (d:dP h b 0 (n*sz)=some vs) (a:K vs):Lo h (some ⟨b,0,none⟩) (n*sz) K:=by
 rw[oZ];unfold zD;exact .inr ⟨b,0,vs,rfl,d,a⟩
theorem BT {a:Int} {n:Nat} (d:0<=a) (e:0 < n):0<=a.tmod n/\a.tmod n < n:=by
 rw[Int.tmod_eq_emod_of_nonneg d];exact⟨Int.emod_nonneg _ O,Int.emod_lt_of_pos _ O⟩
theorem rW {h:Heap} {p:Option Addr} {n c:Nat} {l:List Int} {B:List Nat} (g:dM h (.slice p n c) l B) {i:Nat} (d:i < l.length):∃ b,p=some ⟨b,0,none⟩/\rd h b (0+i*1)=some (.int .i64 l[i]):=by
 obtain⟨_,⟨a,f,_⟩|⟨b,j,rest,t,a,m,e,_,_⟩⟩:=g
 ·have:l=[]:=by simpa using f
  subst this;simp at d
 simp only[Z_]at a;obtain⟨rfl,_,_⟩:=a;refine⟨b,rfl,?_⟩;rw[dj]at e;simp only[rd,e,List.getElem?_toArray,Nat.zero_add,Nat.mul_one];rw[List.getElem?_append_left (by simpa using d)];simp[d]
theorem zg {e g g0:Heap} {a:List dc} {f:Option Addr} {d:Nat} {i:List Nat} {p:List Int} {y:Option Addr} {o:Nat} {j:List Nat} {v:List je} {w:Value} {m:List Nat} (h:iO e g a f d i p y o j v w m) (t:g0.le e) (z:a.length<=100)
  (s:∀ x∈a,(1<=x.kind/\x.kind<=24)/\(-1000<=x.a/\x.a<=1000)/\-1000<=x.b/\x.b<=1000):Row 3 yg (since g0 g) (.slice f a.length d) a :=
 (h.oc.aK (ie λb q=>aW t (h.fr b (by simp[q])))).xq O λx u=>⟨rfl,by
  have:=s x u;unfold cy;omega⟩
theorem vL {d q:Heap} {a:List dc} {f:Option Addr} {m:Nat} {g:List Nat} {p:List Int} {x:Option Addr} {o:Nat} {i:List Nat} {v:List je} {w:Value} {j:List Nat} (h:iO d q a f m g p x o i v w j) (t:1<=a.length):∃ b,f=some ⟨b,0,none⟩/\d b=none:=by
 have u:=h.oc;obtain⟨_,⟨_,e,_⟩|⟨b,c,rest,y,e,_,_,_,s⟩⟩:=u
 ·have:a=[]:=by simpa using e
  subst this;simp at t
 simp only[Z_]at e;exact⟨b,e.1,h.fr b (by rw[s];simp)⟩
theorem mj {d g g0:Heap} {i:List dc} {L:Option Addr} {u:Nat} {q:List Nat} {w:List Int} {M:Option Addr} {v:Nat} {s:List Nat} {e:List je} {p:Value} {t:List Nat} {m:bT} {n:Nat} {a j:Value} {f:List dc}
  (h:iO d g i L u q w M v s e p t) (E:g0.le d) (y:eC n m) (F:n<=5) (z:bP (since g0 d) a m.args) (C:Row 3 yg (since g0 g) j f) (D:∀ x∈e,(0<=x.lo/\x.lo < x.hi/\x.hi<=100/\0<=x.to/\x.to < 100)/\x.cls=1) :
  dz (since g0 g) [.int .i64 m.cls,.int .i64 m.eu,a,.int .i64 m.out,.int .i64 m.locals,j,.slice none 0 0,p] {m with code:=f,aF:=[],catches:=e}:=by
 obtain⟨H,I,J,K⟩:=uq y F;refine⟨a,_,_,_,rfl,H,I,J,K,z.le (bI g0 h.le),C,gv _,(h.ok.aK (ie λb B=>aW E (h.fr b (by simp[B])))).xq ?_ λx G=>⟨rfl,?_⟩⟩
 ·rcases h.kf with ⟨_,o⟩|⟨_,_,o⟩
  ·simp[o]
  omega
 have:=D x G;unfold cy;omega
theorem C0 {g0 I:Heap} {B:Nat} {vb:Value} {p:Int} (us:List Value) (u:aI) (m:bT) (a:Value) (r:bC I B vb p) (hp:p<=40000000) (h0:g0.le I) (hu:dn (since g0 I) us u) (ha:bP (since g0 I) a m.args) (hV:AE u) (hn:u.methods.length<=100) (Y:eC u.ak.length m) (e1:m.code=[]) (e2:m.aF=[]) (e3:m.catches=[]) :
  Dr prog 170 [.pointer (some ⟨B,0,none⟩),.agg ⟨us⟩,.agg ⟨dV m.cls m.eu a m.out m.locals⟩] I B vb p 2100 λg' v=>∃ rec m',v=.agg ⟨rec⟩/\zf (since g0 I) (since g0 g') u m a rec m':=by
 have ok:=hV.1;have zh:=ok.2.1;have si:=Y.2.2.2.2.1;have Lz:0<=m.locals:=by have:=Y.2.2.2.2.2;omega
 have hm:=vK Y zh (ha.le (aO g0 I)) e1 e2 e3;have I6:=λp1 (r1:bC I B vb p1) BC uR BQ=>CX us (dV m.cls m.eu a m.out m.locals) u m uR r1 BC (hu.le (aO g0 I)) hm hV hn Y BQ;have tH:=hu;obtain⟨cp,cc,q,ad,rfl,hcs,lR,jq,hl2⟩:=hu.form;obtain⟨ap,ac,rfl,OY,Tt⟩:=ha.len;refine bE ax func170 QD U rfl ?_;unfold dV;conv=>whnf
 refine bN r O (λx x0 x1 x2 r1=>?_);conv=>whnf
 apply aC<;>intro gc;all_goals conv=>whnf
 rotate_left
 refine ia r1 (I6 _ r1 O _ O) (λv g2 S l2 r2 Tm Tn hA=>?_);obtain⟨d,pc,kc,Bc,C,pe,ke,Be,rfl,hB,BQ⟩:=hA;have Tu:=iO.of hB;conv=>whnf
 refine cu gc ?_;conv=>whnf
 have hX:∀ j (h:j < d.length),(j < 0\/d.length<=j->Good u m ((d.length:Int)+2) d[j])/\(0<=j->j < d.length->qn u m d[j]):=λj f=>⟨λh=>O,λ_ h=>hB.ins _ (x_ h)⟩
 rotate_left
 refine av ?_;conv=>whnf
 refine ia r1 (I6 _ r1 O _ O) (λv g2 S l2 r2 Tm Tn hA=>?_);obtain⟨d,pc,kc,Bc,C,pe,ke,Be,rfl,hB,BQ⟩:=hA;have Tu:=iO.of hB;conv=>whnf
 refine fD gc ?_;conv=>whnf
 apply aC<;>intro gn;all_goals conv=>whnf
 ·refine av ?_;conv=>whnf
  refine Tu.app r r2 [⟨11,(d.length:Int)+2,0⟩,⟨5,0,0⟩] rfl rfl rfl rfl O Z rfl (Nat.le_of_ble_eq_true rfl) (λpX kX gX BX ON rX=>?_);conv=>whnf
  refine av ?_;conv=>whnf
  refine bN rX O (λX kf0 kf1 kf2 rY=>?_);conv=>whnf
  refine av ?_;conv=>whnf
  refine ON.cat rY ⟨X,d.length,(d.length:Int)+1,1⟩ rfl (λbk g3 M r3=>?_);conv=>whnf
  have hX:∀ j (h:j < (d++[(⟨11,(d.length:Int)+2,0⟩:dc),⟨5,0,0⟩]).length),(j < 0\/d.length<=j->Good u m (((d++[(⟨11,(d.length:Int)+2,0⟩:dc),⟨5,0,0⟩]).length:Int)+2) (d++[(⟨11,(d.length:Int)+2,0⟩:dc),⟨5,0,0⟩])[j])/\(0<=j->j < d.length->qn u m (d++[(⟨11,(d.length:Int)+2,0⟩:dc),⟨5,0,0⟩])[j]):=λj f=>by
   simp only[U_,List.length_cons,List.length_nil]at f;refine⟨λh=>?_,λ_ h=>?_⟩
   ·have K:j=d.length\/j=d.length+1:=by omega
    rcases K with rfl|rfl
    ·rw[List.getElem_append_right O];simp only[Nat.sub_self,List.getElem_cons_zero];exact .inr ⟨Z,by simp;omega,rfl⟩
    rw[List.getElem_append_right O];simp only[Nat.add_sub_cancel_left,List.getElem_cons_succ,List.getElem_cons_zero];exact .inl ⟨(aS (p:=0) (q:=0) rfl).2 ⟨rfl,rfl⟩,Z,Z⟩
   rw[List.getElem_append_left h];exact hB.ins _ (x_ h)
  have Tv:(d++[(⟨11,(d.length:Int)+2,0⟩:dc),⟨5,0,0⟩]).length<=10:=(by first|omega|(simp only[U_,List.length_cons,List.length_nil];omega))
  have Tw:d.length<=(d++[(⟨11,(d.length:Int)+2,0⟩:dc),⟨5,0,0⟩]).length:=(by first|omega|(simp only[U_,List.length_cons,List.length_nil];omega))
  have Fz:0<=((d.length:Int)+2:Int)/\((d.length:Int)+2:Int) < ((d++[(⟨11,(d.length:Int)+2,0⟩:dc),⟨5,0,0⟩]).length:Int)+2:=(by first|omega|(simp only[U_,List.length_cons,List.length_nil];omega))
  have Tx:=hB.emp;have LJ:∀ x∈(([⟨X,d.length,(d.length:Int)+1,1⟩]:List je):List je),(0<=x.lo/\x.lo < x.hi/\x.hi<=((d++[(⟨11,(d.length:Int)+2,0⟩:dc),⟨5,0,0⟩]).length:Int)/\0<=x.to/\x.to < ((d++[(⟨11,(d.length:Int)+2,0⟩:dc),⟨5,0,0⟩]).length:Int))/\x.cls=1:=λx E=>by
   rw[V_.1 E];refine⟨⟨?_,?_,?_,?_,?_⟩,rfl⟩<;>(try simp only[U_,List.length_cons,List.length_nil])<;>(try dsimp only)<;>omega
  refine eF [0,4,5,6,9,10,11,12,13] [4,5,6] (λo:Nat × Heap × List dc=>o.1<=d.length/\iO I o.2.1 o.2.2 pX kX BX C pe ke Be ([⟨X,d.length,(d.length:Int)+1,1⟩]:List je) (.slice (some ⟨bk,0,none⟩) 1 1) [bk]/\bC o.2.1 B vb (S+1)/\o.2.2.length=(d++[(⟨11,(d.length:Int)+2,0⟩:dc),⟨5,0,0⟩]).length/\(∀ j (h:j < o.2.2.length),(j < o.1\/d.length<=j->Good u m (((d++[(⟨11,(d.length:Int)+2,0⟩:dc),⟨5,0,0⟩]).length:Int)+2) o.2.2[j])/\(o.1<=j->j < d.length->qn u m o.2.2[j]))) (λo=>d.length-o.1)
   (λo=>([.v (.pointer (some ⟨B,0,none⟩)),.l 4 0,.l 5 0,.l 6 0,.v (.slice pX (d++[(⟨11,(d.length:Int)+2,0⟩:dc),⟨5,0,0⟩]).length kX),.v (.slice pe C.length ke),.v (.int .i64 d.length),.v (.int .i64 ((d.length:Int)+2)),.v (.int .i64 o.1)],
    [some [.slice cp u.ak.length cc,.slice q u.methods.length ad],some [.int .i64 m.cls,.int .i64 m.eu,.slice ap m.args.length ac,.int .i64 m.out,.int .i64 m.locals,.slice none 0 0,.slice none 0 0,(.slice (some ⟨bk,0,none⟩) 1 1)],some [.int .i64 0,.int .i64 0,.slice none 0 0,.int .i64 0,.int .i64 0,.slice none 0 0,.slice none 0 0,.slice none 0 0]],cO o.2.1 B vb (S+1)))
   (0,g3,d++[(⟨11,(d.length:Int)+2,0⟩:dc),⟨5,0,0⟩]) ⟨Nat.zero_le _,M,r3,rfl,hX⟩ rfl ?_
  rintro⟨i,J,e⟩ ⟨hi,M,w,Q,L⟩;simp only at hi M w Q L ⊢;conv=>whnf
  apply aC<;>intro gi;all_goals conv=>whnf
  ·have mC:i < e.length:=by omega
   have HO:=(L i mC).2 (Nat.le_refl _) O;have Ty:=BR HO ok hn O;have aa:=M.at mC;obtain⟨T,N,e4,pre,post,t4,W,yV,put⟩:=aa;have Tz:T≠B:=λH=>by have:=w.free;rw[<-H,W]at this;cases this
   have HP:dP (cO J B vb (S+1)) T (0+i*3) 3=some (cK e[i]):=dD (eE w.free) e4;have ja:rd (cO J B vb (S+1)) T (0+i*3+1)=some (.int .i64 e[i].a):=aJ HP (i:=1) rfl;have TA:∀ y,Good u m (((d++[(⟨11,(d.length:Int)+2,0⟩:dc),⟨5,0,0⟩]).length:Int)+2) y->∀ j (h:j < (e.set i y).length),(j < i+1\/d.length<=j->Good u m (((d++[(⟨11,(d.length:Int)+2,0⟩:dc),⟨5,0,0⟩]).length:Int)+2) (e.set i y)[j])/\(i+1<=j->j < d.length->qn u m (e.set i y)[j]):=λy hy j f=>by
    rw[List.length_set]at f;by_cases H:i=j
    ·subst H;refine⟨λ_=>by simpa using hy,λh=>O⟩
    rw[List.getElem_set_ne H];exact⟨λh=>(L j f).1 O,λD K=>(L j f).2 O K⟩
   have pS:Good u m (((d++[(⟨11,(d.length:Int)+2,0⟩:dc),⟨5,0,0⟩]).length:Int)+2) e[i]->∀ j (h:j < e.length),(j < i+1\/d.length<=j->Good u m (((d++[(⟨11,(d.length:Int)+2,0⟩:dc),⟨5,0,0⟩]).length:Int)+2) e[j])/\(i+1<=j->j < d.length->qn u m e[j]):=λhy j f=>by
    by_cases H:i=j
    ·subst H;exact⟨λ_=>hy,λh=>O⟩
    exact⟨λh=>(L j f).1 O,λD K=>(L j f).2 O K⟩
   generalize OV:e[i]=xi at HO Ty e4 HP ja pS W;obtain⟨t,F,g⟩:=xi;unfold cK at e4 HP;refine ay ?_;conv=>whnf
   refine aL N ?_;conv=>whnf
   refine dZ HP ?_;conv=>whnf
   refine KH w (hY t F g J) ?_;conv=>whnf
   cases f:cV ⟨t,F,g⟩
   ·conv=>whnf
    refine av ?_;conv=>whnf
    unfold cV at f;have f:=of_decide_eq_false f;refine cL (i+1,J,e) ⟨by simp only;omega,M,w,Q,pS ?_⟩ (by simp only;omega) rfl;rcases HO with ⟨D,_,TB,_⟩|⟨D,_⟩
    ·exact .inl ⟨D,f,TB⟩
    exact absurd D (by simp only at f ⊢;omega)
   unfold cV at f;have f:=of_decide_eq_true f;have TC : -3<=F/\F<=-1/\g=0:=by
    rcases HO with ⟨_,D,_⟩|⟨_,D,K⟩
    ·exact absurd f D
    simp only at D K;omega
   conv=>whnf
   refine ay ?_;conv=>whnf
   refine aL N ?_;conv=>whnf
   refine ld ja ?_;conv=>whnf
   refine fD (by simp only;omega) ?_;conv=>whnf
   refine ay ?_;conv=>whnf
   refine aL N ?_;conv=>whnf
   refine ld ja ?_;conv=>whnf
   have fin:∀(to:Int),0<=to/\to < ((d++[(⟨11,(d.length:Int)+2,0⟩:dc),⟨5,0,0⟩]).length:Int)+2->iO I (J.set T (.cells (pre++cK ⟨t,to,g⟩++post).toArray t4 (0,0))) (e.set i ⟨t,to,g⟩) pX kX BX C pe ke Be ([⟨X,d.length,(d.length:Int)+1,1⟩]:List je) (.slice (some ⟨bk,0,none⟩) 1 1) [bk]/\bC (J.set T (.cells (pre++cK ⟨t,to,g⟩++post).toArray t4 (0,0))) B vb (S+1)/\(∀ j (h:j < (e.set i ⟨t,to,g⟩).length),(j < i+1\/d.length<=j->Good u m (((d++[(⟨11,(d.length:Int)+2,0⟩:dc),⟨5,0,0⟩]).length:Int)+2) (e.set i ⟨t,to,g⟩)[j])/\(i+1<=j->j < d.length->qn u m (e.set i ⟨t,to,g⟩)[j])):=λto ht=>by
    have NY:=put ⟨t,to,g⟩ _ rfl;exact⟨NY,r.to NY.le (by simp[Heap.set,w.free];intro H;exact absurd H.symm Tz) O,TA _ (.inr ⟨f,ht,TC.2.2⟩)⟩
   have wr:∀ to:Int,eH (pre++cK ⟨t,F,g⟩++post) (0+i*3+1) [.int .i64 to]=pre++cK ⟨t,to,g⟩++post:=λto=>by
    rw[kg (i:=1) O (by simp[cK])];rfl
   apply aC<;>intro g5;all_goals conv=>whnf
   ·apply aC<;>intro g6;all_goals conv=>whnf
    ·have he:=BT (a:=(0-F)*5+i) (n:=C.length) O O;have yH:(((0-F)*5+(i:Int)).tmod C.length).toNat < C.length:=by omega
     have aa:=rW M.oe yH;obtain⟨be,HQ,hle⟩:=aa;have GQ:=Tx _ (x_ yH);have KQ:∃ to,C[(((0-F)*5+(i:Int)).tmod C.length).toNat]=to:=⟨_,rfl⟩
     obtain⟨to,KQ⟩:=KQ;rw[KQ]at GQ hle;have zL:rd (cO J B vb (S+1)) be (0+(((0-F)*5+(i:Int)).tmod C.length).toNat*1)=some (.int .i64 to):=cW (eE w.free) hle;refine ay ?_;conv=>whnf
     refine aL N ?_;conv=>whnf
     refine ld ja ?_;conv=>whnf
     refine av ?_;conv=>whnf
     refine av ?_;conv=>whnf
     refine av ?_;conv=>whnf
     refine ay ?_;conv=>whnf
     refine ob he ?_;conv=>whnf
     refine aL HQ ?_;conv=>whnf
     refine ld zL ?_;conv=>whnf
     refine ay ?_;conv=>whnf
     refine aL N ?_;conv=>whnf
     refine j4 w.free W (by simp[cK];omega) (wr (to)) ?_;conv=>whnf
     refine av ?_;conv=>whnf
     have z:=fin (to) ⟨O,O⟩;exact cL (i+1,_,e.set i ⟨t,to,g⟩) ⟨by simp only;omega,z.1,z.2.1,by simp only[List.length_set];exact Q,z.2.2⟩ (by simp only;omega) rfl
    have ur:=Fz;refine ay ?_;conv=>whnf
    refine aL N ?_;conv=>whnf
    refine j4 w.free W (by simp[cK];omega) (wr ((d.length:Int)+2)) ?_;conv=>whnf
    refine av ?_;conv=>whnf
    have z:=fin ((d.length:Int)+2) ur;exact cL (i+1,_,e.set i ⟨t,(d.length:Int)+2,g⟩) ⟨by simp only;omega,z.1,z.2.1,by simp only[List.length_set];exact Q,z.2.2⟩ (by simp only;omega) rfl
   have ur:=Fz;refine ay ?_;conv=>whnf
   refine aL N ?_;conv=>whnf
   refine j4 w.free W (by simp[cK];omega) (wr ((d.length:Int)+2)) ?_;conv=>whnf
   refine av ?_;conv=>whnf
   have z:=fin ((d.length:Int)+2) ur;exact cL (i+1,_,e.set i ⟨t,(d.length:Int)+2,g⟩) ⟨by simp only;omega,z.1,z.2.1,by simp only[List.length_set];exact Q,z.2.2⟩ (by simp only;omega) rfl
  have jE:∀ x∈e,Good u m (((d++[(⟨11,(d.length:Int)+2,0⟩:dc),⟨5,0,0⟩]).length:Int)+2) x:=λx E=>by
   obtain⟨j,f,rfl⟩:=List.mem_iff_getElem.1 E;exact(L j f).1 O
  have FA:∀ x∈(([⟨X,d.length,(d.length:Int)+1,1⟩]:List je):List je),(0<=x.lo/\x.lo < x.hi/\x.hi<=100/\0<=x.to/\x.to < 100)/\x.cls=1:=λx E=>by
   have:=LJ x E;omega
  have TE:=mj M h0 Y zh ha (gv _) FA;refine ia w (ug _ _ w O (TE.le (aO _ _))) (λv g5 q5 l5 r5 Zj Zk hA=>?_);obtain⟨b5,x,y,rfl,wB,e5,FB⟩:=hA;have TF:=M.aK l5;have Gr:dw u {m with code:=e++[x,y],aF:=[],catches:=([⟨X,d.length,(d.length:Int)+1,1⟩]:List je)} x/\dw u {m with code:=e++[x,y],aF:=[],catches:=([⟨X,d.length,(d.length:Int)+1,1⟩]:List je)} y:=by
   have K:=ok.1;rcases FB with ⟨rfl,rfl⟩|⟨rfl,rfl|⟨ab,rfl,w0,w1⟩⟩
   ·exact⟨(aS (p:=5) (q:=0) rfl).2 ⟨by unfold bh;simp;omega,rfl⟩,(aS (p:=0) (q:=0) rfl).2 ⟨rfl,rfl⟩⟩
   ·exact⟨(aS (p:=0) (q:=0) rfl).2 ⟨rfl,rfl⟩,(aS (p:=0) (q:=0) rfl).2 ⟨rfl,rfl⟩⟩
   exact⟨(aS (p:=1) (q:=0) rfl).2 ⟨by unfold bh;simp[eU];omega,rfl⟩,(aS (p:=0) (q:=0) rfl).2 ⟨rfl,rfl⟩⟩
  have TG:Kd (e++[x,y]):=by
   refine⟨e++[x],y,Z,λG s=>?_,?_⟩
   ·rcases u_.1 s with s|s
    ·exact(jE G s).k
    rw[V_.1 s];rcases FB with ⟨_,rfl⟩|⟨_,rfl|⟨ab,rfl,_⟩⟩<;>simp
   rcases FB with ⟨rfl,_⟩|⟨rfl,_⟩<;>simp
  have TH:dP (cO g5 B vb q5) b5 0 (2*3)=some (cK x++cK y):=by
   refine dD (eE r5.free) ?_;rw[bA e5 _ _ (by simp[cK])];rfl
  conv=>whnf
  refine BS TH ?_;conv=>whnf
  refine TF.app r r5 [x,y] O rfl rfl rfl O Z rfl (Nat.le_of_ble_eq_true rfl) (λp6 k6 g6 B6 P r6=>?_);have f6:=vL P Z;obtain⟨TJ,rfl,KR⟩:=f6;conv=>whnf
  have Ae:∀ G∈e++[x,y],dw u {m with code:=e++[x,y],aF:=[],catches:=([⟨X,d.length,(d.length:Int)+1,1⟩]:List je)} G:=λG s=>by
   simp only[u_,List.mem_cons,List.not_mem_nil,or_false]at s;rcases s with s|rfl|rfl
   ·exact(jE G s).ins rfl (by simp[Q])
   ·exact Gr.1
   exact Gr.2
  have I0:=y_ h0 P.le;have l6:(since g0 I).le (since g0 g6):=bI g0 P.le;have rR:=zg P h0 (by simp;omega) (λG s=>qp (Ae G s) ok hn (by simp only;omega) (by simp;omega));have KS:=mj P h0 Y zh ha rR FA;have V:KC u {m with code:=e++[x,y],aF:=[],catches:=([⟨X,d.length,(d.length:Int)+1,1⟩]:List je)}:=⟨Y,by simp;omega,Ae,by
   refine⟨Z,λG s=>?_⟩;have Jz:=LJ G s;have hc:=ok.1;have NZ:(e++[x,y]).length=e.length+2:=by simp
   exact⟨by simp only[NZ];omega,by simp only[NZ];omega,O,by rw[Jz.2];exact pJ ok O O⟩⟩
  refine HH r6 I0 (ni _ u {m with code:=e++[x,y],aF:=[],catches:=([⟨X,d.length,(d.length:Int)+1,1⟩]:List je)} (since g0 g6) ap (some ⟨TJ,0,none⟩) none (some ⟨bk,0,none⟩) m.args.length _ 0 1 ac k6 0 1 (tH.le l6) KS hV V) (λv g7 l7 r7 hr=>?_);obtain⟨b7,c7,A,rfl,aA,nA,vA⟩:=hr;conv=>whnf
  obtain⟨a8,c8,s8,k8,AH,w1,w2,w3,w4,w5,w6,_,w8⟩:=KS;simp only[List.cons.injEq,and_true,true_and]at AH;obtain⟨rfl,rfl,rfl,rfl⟩:=AH;have ls:=bI g0 l7;have Zl:A.length=e.length+2:=by rw[nA];simp
  refine⟨_,_,rfl,y_ P.le l7,r7.free,O,O,_,{m with code:=e++[x,y],aF:=A,catches:=([⟨X,d.length,(d.length:Int)+1,1⟩]:List je)},rfl,⟨rfl,rfl,rfl,rfl,rfl⟩,⟨_,_,_,_,rfl,w1,w2,w3,w4,w5.le ls,w6.le ls (λ_ _ E=>E),aA.oA O,w8.le ls (λ_ _ E=>E)⟩,⟨⟨V.head,V.len,V.code,V.cat⟩,nA,vA⟩,⟨_,_,_,_,_,rfl,⟨mg KR,aW l6 aA.fr⟩,.inr ⟨_,rfl,rfl⟩⟩,TG⟩
 have hX:∀ j (h:j < d.length),(j < 0\/d.length<=j->Good u m ((d.length:Int)+2) d[j])/\(0<=j->j < d.length->qn u m d[j]):=λj f=>⟨λh=>O,λ_ h=>hB.ins _ (x_ h)⟩
 all_goals
  have Tv:(d).length<=10:=(by first|omega|(simp only[U_,List.length_cons,List.length_nil];omega))
  have Tw:d.length<=(d).length:=(by first|omega|(simp only[U_,List.length_cons,List.length_nil];omega))
  have Fz:0<=((d.length:Int):Int)/\((d.length:Int):Int) < ((d).length:Int)+2:=(by first|omega|(simp only[U_,List.length_cons,List.length_nil];omega))
  have Tx:=hB.emp;have LJ:∀ x∈(([]:List je):List je),(0<=x.lo/\x.lo < x.hi/\x.hi<=((d).length:Int)/\0<=x.to/\x.to < ((d).length:Int))/\x.cls=1:=λx E=>by
   cases E
  refine eF [0,4,5,6,9,10,11,12,13] [4,5,6] (λo:Nat × Heap × List dc=>o.1<=d.length/\iO I o.2.1 o.2.2 pc kc Bc C pe ke Be ([]:List je) (.slice none 0 0) []/\bC o.2.1 B vb S/\o.2.2.length=(d).length/\(∀ j (h:j < o.2.2.length),(j < o.1\/d.length<=j->Good u m (((d).length:Int)+2) o.2.2[j])/\(o.1<=j->j < d.length->qn u m o.2.2[j]))) (λo=>d.length-o.1)
   (λo=>([.v (.pointer (some ⟨B,0,none⟩)),.l 4 0,.l 5 0,.l 6 0,.v (.slice pc (d).length kc),.v (.slice pe C.length ke),.v (.int .i64 d.length),.v (.int .i64 ((d.length:Int))),.v (.int .i64 o.1)],
    [some [.slice cp u.ak.length cc,.slice q u.methods.length ad],some [.int .i64 m.cls,.int .i64 m.eu,.slice ap m.args.length ac,.int .i64 m.out,.int .i64 m.locals,.slice none 0 0,.slice none 0 0,(.slice none 0 0)],some [.int .i64 0,.int .i64 0,.slice none 0 0,.int .i64 0,.int .i64 0,.slice none 0 0,.slice none 0 0,.slice none 0 0]],cO o.2.1 B vb S))
   (0,g2,d) ⟨Nat.zero_le _,Tu,r2,rfl,hX⟩ rfl ?_
  rintro⟨i,J,e⟩ ⟨hi,M,w,Q,L⟩;simp only at hi M w Q L ⊢;conv=>whnf
  apply aC<;>intro gi;all_goals conv=>whnf
  ·have mC:i < e.length:=by omega
   have HO:=(L i mC).2 (Nat.le_refl _) O;have Ty:=BR HO ok hn O;have aa:=M.at mC;obtain⟨T,N,e4,pre,post,t4,W,yV,put⟩:=aa;have Tz:T≠B:=λH=>by have:=w.free;rw[<-H,W]at this;cases this
   have HP:dP (cO J B vb S) T (0+i*3) 3=some (cK e[i]):=dD (eE w.free) e4;have ja:rd (cO J B vb S) T (0+i*3+1)=some (.int .i64 e[i].a):=aJ HP (i:=1) rfl;have TA:∀ y,Good u m (((d).length:Int)+2) y->∀ j (h:j < (e.set i y).length),(j < i+1\/d.length<=j->Good u m (((d).length:Int)+2) (e.set i y)[j])/\(i+1<=j->j < d.length->qn u m (e.set i y)[j]):=λy hy j f=>by
    rw[List.length_set]at f;by_cases H:i=j
    ·subst H;refine⟨λ_=>by simpa using hy,λh=>O⟩
    rw[List.getElem_set_ne H];exact⟨λh=>(L j f).1 O,λD K=>(L j f).2 O K⟩
   have pS:Good u m (((d).length:Int)+2) e[i]->∀ j (h:j < e.length),(j < i+1\/d.length<=j->Good u m (((d).length:Int)+2) e[j])/\(i+1<=j->j < d.length->qn u m e[j]):=λhy j f=>by
    by_cases H:i=j
    ·subst H;exact⟨λ_=>hy,λh=>O⟩
    exact⟨λh=>(L j f).1 O,λD K=>(L j f).2 O K⟩
   generalize OV:e[i]=xi at HO Ty e4 HP ja pS W;obtain⟨t,F,g⟩:=xi;unfold cK at e4 HP;refine ay ?_;conv=>whnf
   refine aL N ?_;conv=>whnf
   refine dZ HP ?_;conv=>whnf
   refine KH w (hY t F g J) ?_;conv=>whnf
   cases f:cV ⟨t,F,g⟩
   ·conv=>whnf
    refine av ?_;conv=>whnf
    unfold cV at f;have f:=of_decide_eq_false f;refine cL (i+1,J,e) ⟨by simp only;omega,M,w,Q,pS ?_⟩ (by simp only;omega) rfl;rcases HO with ⟨D,_,TB,_⟩|⟨D,_⟩
    ·exact .inl ⟨D,f,TB⟩
    exact absurd D (by simp only at f ⊢;omega)
   unfold cV at f;have f:=of_decide_eq_true f;have TC : -3<=F/\F<=-1/\g=0:=by
    rcases HO with ⟨_,D,_⟩|⟨_,D,K⟩
    ·exact absurd f D
    simp only at D K;omega
   conv=>whnf
   refine ay ?_;conv=>whnf
   refine aL N ?_;conv=>whnf
   refine ld ja ?_;conv=>whnf
   refine fD (by simp only;omega) ?_;conv=>whnf
   refine ay ?_;conv=>whnf
   refine aL N ?_;conv=>whnf
   refine ld ja ?_;conv=>whnf
   have fin:∀(to:Int),0<=to/\to < ((d).length:Int)+2->iO I (J.set T (.cells (pre++cK ⟨t,to,g⟩++post).toArray t4 (0,0))) (e.set i ⟨t,to,g⟩) pc kc Bc C pe ke Be ([]:List je) (.slice none 0 0) []/\bC (J.set T (.cells (pre++cK ⟨t,to,g⟩++post).toArray t4 (0,0))) B vb S/\(∀ j (h:j < (e.set i ⟨t,to,g⟩).length),(j < i+1\/d.length<=j->Good u m (((d).length:Int)+2) (e.set i ⟨t,to,g⟩)[j])/\(i+1<=j->j < d.length->qn u m (e.set i ⟨t,to,g⟩)[j])):=λto ht=>by
    have NY:=put ⟨t,to,g⟩ _ rfl;exact⟨NY,r.to NY.le (by simp[Heap.set,w.free];intro H;exact absurd H.symm Tz) O,TA _ (.inr ⟨f,ht,TC.2.2⟩)⟩
   have wr:∀ to:Int,eH (pre++cK ⟨t,F,g⟩++post) (0+i*3+1) [.int .i64 to]=pre++cK ⟨t,to,g⟩++post:=λto=>by
    rw[kg (i:=1) O (by simp[cK])];rfl
   apply aC<;>intro g5;all_goals conv=>whnf
   ·apply aC<;>intro g6;all_goals conv=>whnf
    ·have he:=BT (a:=(0-F)*5+i) (n:=C.length) O O;have yH:(((0-F)*5+(i:Int)).tmod C.length).toNat < C.length:=by omega
     have aa:=rW M.oe yH;obtain⟨be,HQ,hle⟩:=aa;have GQ:=Tx _ (x_ yH);have KQ:∃ to,C[(((0-F)*5+(i:Int)).tmod C.length).toNat]=to:=⟨_,rfl⟩
     obtain⟨to,KQ⟩:=KQ;rw[KQ]at GQ hle;have zL:rd (cO J B vb S) be (0+(((0-F)*5+(i:Int)).tmod C.length).toNat*1)=some (.int .i64 to):=cW (eE w.free) hle;refine ay ?_;conv=>whnf
     refine aL N ?_;conv=>whnf
     refine ld ja ?_;conv=>whnf
     refine av ?_;conv=>whnf
     refine av ?_;conv=>whnf
     refine av ?_;conv=>whnf
     refine ay ?_;conv=>whnf
     refine ob he ?_;conv=>whnf
     refine aL HQ ?_;conv=>whnf
     refine ld zL ?_;conv=>whnf
     refine ay ?_;conv=>whnf
     refine aL N ?_;conv=>whnf
     refine j4 w.free W (by simp[cK];omega) (wr (to)) ?_;conv=>whnf
     refine av ?_;conv=>whnf
     have z:=fin (to) ⟨O,O⟩;exact cL (i+1,_,e.set i ⟨t,to,g⟩) ⟨by simp only;omega,z.1,z.2.1,by simp only[List.length_set];exact Q,z.2.2⟩ (by simp only;omega) rfl
    have ur:=Fz;refine ay ?_;conv=>whnf
    refine aL N ?_;conv=>whnf
    refine j4 w.free W (by simp[cK];omega) (wr ((d.length:Int))) ?_;conv=>whnf
    refine av ?_;conv=>whnf
    have z:=fin ((d.length:Int)) ur;exact cL (i+1,_,e.set i ⟨t,(d.length:Int),g⟩) ⟨by simp only;omega,z.1,z.2.1,by simp only[List.length_set];exact Q,z.2.2⟩ (by simp only;omega) rfl
   have ur:=Fz;refine ay ?_;conv=>whnf
   refine aL N ?_;conv=>whnf
   refine j4 w.free W (by simp[cK];omega) (wr ((d.length:Int))) ?_;conv=>whnf
   refine av ?_;conv=>whnf
   have z:=fin ((d.length:Int)) ur;exact cL (i+1,_,e.set i ⟨t,(d.length:Int),g⟩) ⟨by simp only;omega,z.1,z.2.1,by simp only[List.length_set];exact Q,z.2.2⟩ (by simp only;omega) rfl
  have jE:∀ x∈e,Good u m (((d).length:Int)+2) x:=λx E=>by
   obtain⟨j,f,rfl⟩:=List.mem_iff_getElem.1 E;exact(L j f).1 O
  have FA:∀ x∈(([]:List je):List je),(0<=x.lo/\x.lo < x.hi/\x.hi<=100/\0<=x.to/\x.to < 100)/\x.cls=1:=λx E=>by
   have:=LJ x E;omega
  have TE:=mj M h0 Y zh ha (gv _) FA;refine ia w (ug _ _ w O (TE.le (aO _ _))) (λv g5 q5 l5 r5 Zj Zk hA=>?_);obtain⟨b5,x,y,rfl,wB,e5,FB⟩:=hA;have TF:=M.aK l5;have Gr:dw u {m with code:=e++[x,y],aF:=[],catches:=([]:List je)} x/\dw u {m with code:=e++[x,y],aF:=[],catches:=([]:List je)} y:=by
   have K:=ok.1;rcases FB with ⟨rfl,rfl⟩|⟨rfl,rfl|⟨ab,rfl,w0,w1⟩⟩
   ·exact⟨(aS (p:=5) (q:=0) rfl).2 ⟨by unfold bh;simp;omega,rfl⟩,(aS (p:=0) (q:=0) rfl).2 ⟨rfl,rfl⟩⟩
   ·exact⟨(aS (p:=0) (q:=0) rfl).2 ⟨rfl,rfl⟩,(aS (p:=0) (q:=0) rfl).2 ⟨rfl,rfl⟩⟩
   exact⟨(aS (p:=1) (q:=0) rfl).2 ⟨by unfold bh;simp[eU];omega,rfl⟩,(aS (p:=0) (q:=0) rfl).2 ⟨rfl,rfl⟩⟩
  have TG:Kd (e++[x,y]):=by
   refine⟨e++[x],y,Z,λG s=>?_,?_⟩
   ·rcases u_.1 s with s|s
    ·exact(jE G s).k
    rw[V_.1 s];rcases FB with ⟨_,rfl⟩|⟨_,rfl|⟨ab,rfl,_⟩⟩<;>simp
   rcases FB with ⟨rfl,_⟩|⟨rfl,_⟩<;>simp
  have TH:dP (cO g5 B vb q5) b5 0 (2*3)=some (cK x++cK y):=by
   refine dD (eE r5.free) ?_;rw[bA e5 _ _ (by simp[cK])];rfl
  conv=>whnf
  refine BS TH ?_;conv=>whnf
  refine TF.app r r5 [x,y] O rfl rfl rfl O Z rfl (Nat.le_of_ble_eq_true rfl) (λp6 k6 g6 B6 P r6=>?_);have f6:=vL P Z;obtain⟨TJ,rfl,KR⟩:=f6;conv=>whnf
  have Ae:∀ G∈e++[x,y],dw u {m with code:=e++[x,y],aF:=[],catches:=([]:List je)} G:=λG s=>by
   simp only[u_,List.mem_cons,List.not_mem_nil,or_false]at s;rcases s with s|rfl|rfl
   ·exact(jE G s).ins rfl (by simp[Q])
   ·exact Gr.1
   exact Gr.2
  have I0:=y_ h0 P.le;have l6:(since g0 I).le (since g0 g6):=bI g0 P.le;have rR:=zg P h0 (by simp;omega) (λG s=>qp (Ae G s) ok hn (by simp only;omega) (by simp;omega));have KS:=mj P h0 Y zh ha rR FA;have V:KC u {m with code:=e++[x,y],aF:=[],catches:=([]:List je)}:=⟨Y,by simp;omega,Ae,by
   refine⟨Z,λG s=>?_⟩;have Jz:=LJ G s;have hc:=ok.1;have NZ:(e++[x,y]).length=e.length+2:=by simp
   exact⟨by simp only[NZ];omega,by simp only[NZ];omega,O,by rw[Jz.2];exact pJ ok O O⟩⟩
  refine HH r6 I0 (ni _ u {m with code:=e++[x,y],aF:=[],catches:=([]:List je)} (since g0 g6) ap (some ⟨TJ,0,none⟩) none none m.args.length _ 0 0 ac k6 0 0 (tH.le l6) KS hV V) (λv g7 l7 r7 hr=>?_);obtain⟨b7,c7,A,rfl,aA,nA,vA⟩:=hr;conv=>whnf
  obtain⟨a8,c8,s8,k8,AH,w1,w2,w3,w4,w5,w6,_,w8⟩:=KS;simp only[List.cons.injEq,and_true,true_and]at AH;obtain⟨rfl,rfl,rfl,rfl⟩:=AH;have ls:=bI g0 l7;have Zl:A.length=e.length+2:=by rw[nA];simp
  refine⟨_,_,rfl,y_ P.le l7,r7.free,O,O,_,{m with code:=e++[x,y],aF:=A,catches:=([]:List je)},rfl,⟨rfl,rfl,rfl,rfl,rfl⟩,⟨_,_,_,_,rfl,w1,w2,w3,w4,w5.le ls,w6.le ls (λ_ _ E=>E),aA.oA O,w8.le ls (λ_ _ E=>E)⟩,⟨⟨V.head,V.len,V.code,V.cat⟩,nA,vA⟩,⟨_,_,_,_,_,rfl,⟨mg KR,aW l6 aA.fr⟩,.inl ⟨rfl,rfl⟩⟩,TG⟩
end Go.Proofs
